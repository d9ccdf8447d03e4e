/- Parts of the proof (Ref04, PackT, PackD, PackE, PackB, PackP, Ref01, Ref01b). -/
import Derived.Test.YthpknpfhpkkheaaGreatDoorMGc
import Derived.Lib.ValidLaws
namespace Go.Proofs.YthpknpfhpkkheaaGreatDoor
open Go Go.RowKit
set_option linter.unusedVariables false
set_option linter.unusedSimpArgs false
set_option maxRecDepth 100000
theorem rops_walk  (w0 : World) : Does Tryz.prog 148 #[] w0 (fun r w' => ∃ v, r = v ∧ Ow w' w0.heap.size 9 1 v 42 nmL ∧ Nw w0 w') := by
  refine fn_of (n := 2) (args := []) Tryz.func148 rfl rfl rfl (W_seq (W_region (L_r (r_av) (L_nil (W_seq (W_region ?_))))))
  refine L_build1o (nmL) Tryz.underlying22 rfl rfl rfl (.plain rfl) rfl (by rfl) (by rfl) (by rfl) (fun v1 w1 ho1 eb1 hs1 c1 => (L_r (r_av) (L_nil (W_ret ?_))))
  refine ret1 rfl (by conv => lhs; whnf) ?_
  exact ⟨_, rfl, Ow.of ho1, Ch.au⟩
theorem rnumber_walk (s : ByteArray) (w0 : World) : Does Tryz.prog 101 #[.string s] w0 (fun r w' => r = .int .i64 (opZ s) ∧ Nw w0 w') := by
  obtain ⟨T, hT⟩ : ∃ T, T = opT := ⟨_, rfl⟩
  have hops : ∀ W, Does Tryz.prog 148 #[] W fun r w' => ∃ v, r = v ∧ Ow w' W.heap.size 9 1 v 42 (T.map fun o => Value.string o.1) ∧ Nw W w' := by rw [hT]; exact rops_walk
  have hz : opZ s = zOf (idxF s T 0) := by rw [hT]; rfl
  have hTl : T.length = 42 := by rw [hT]; rfl
  rw [hz]
  clear hT hz
  refine fn_of (n := 19) (args := [.string s]) Tryz.func101 rfl rfl rfl (W_seq (W_region (L_r (r_ai rfl) (L_nil (W_seq (W_region ?_))))))
  refine L_call (.plain rfl) rfl rfl (r_call Tryz.func148 rfl rfl rfl (by rfl)) (hops _) ?_
  rintro v5 w1 ⟨_, rfl, hO, c1⟩
  have hz1 := c1.size
  refine L_r (r_av) (L_nil (W_seq (W_seq (W_region (L_r (r_ai rfl) (L_nil (W_block ?_)))))))
  refine W_loopF [0, 3] (fun mz_ f W => ∃ (i : Nat), f 4 = .int .i64 i ∧ (i ≤ 42 ∧ (∀ j (hj : j < T.length), j < i → T[j].1 ≠ s) ∧ Nw w0 W ∧ Ow W w0.heap.size 9 1 v5 42 (T.map fun o => Value.string o.1)) ∧ mz_ = 42 - i) ?_ ?_
  ·
   refine ⟨_, 0, rfl, ?_, rfl⟩
   exact ⟨by omega, fun j hj hji => absurd hji (by omega), Ch.au, hO⟩
  rintro m0 g0 w2 ⟨i, hf4, hR0, rfl⟩
  refine W_as 4 hf4 rfl ?_
  clear hf4
  obtain ⟨hi, hn, hnw, hO2⟩ := hR0
  have hz := hnw.size
  clear hO
  refine W_seq (W_seq (W_region (L_r (r_mi rfl) (L_r (r_mv) ?_))))
  refine L_r (r_lenSl Tryz.underlying22 (by conv => lhs; whnf) Sl.au) (L_r (r_lss rfl rfl) (L_nil ?_))
  refine W_if rfl (fun h9 => ?_) (fun h9 => ?_)
  ·
   have hil : i < T.length := by omega
   have hrow : (T.map fun o => Value.string o.1)[i]? = some (.string T[i].1) := by rw [List.getElem?_map, List.getElem?_eq_getElem hil]; rfl
   refine W_skip (W_seq (W_block (W_seq (W_region (L_r (r_mv) (L_r (r_mi rfl) ?_))))))
   refine L_r (r_ix Tryz.underlying22 (show _ = some 1 from rfl) (by conv => lhs; whnf) rfl Sl.au) ?_
   refine L_r (r_loadSl rfl rfl Sl.au (by exact hrow)) (L_r (r_ms rfl) (L_r (r_eqls rfl rfl) (L_nil ?_)))
   refine W_if rfl (fun h17 => ?_) (fun h17 => ?_)
   ·
    refine W_seq (W_region (L_r (r_mi rfl) (L_r (r_ai rfl) (L_nil (W_ret ?_)))))
    refine ret1 (v := .int _ _) rfl rfl ?_
    refine ⟨?_, Ch.au⟩
    first
    | (have := idxF_at (s := s) T 0 i hil h17 hn
       rw [this, Nat.zero_add]; rfl)
    | (rw [idxF_no T 0 fun j hj => hn j hj (by omega)]; rfl)
   ·
    refine W_skip (W_region (L_r (r_mi rfl) ?_))
    refine L_r (r_add rfl rfl (by first | exact wr_i64 (by omega) | rfl)) (L_r (r_ai rfl) (L_nil ?_))
    refine ⟨⟨fx2, fx2, trivial⟩, _, ?_, i + 1, rfl, ?_, rfl⟩
    · omega
    refine ⟨by omega, fun j hj hji => ?_, Ch.au, Ow.au⟩
    rcases Nat.lt_or_ge j i with h | h
    · exact hn j hj h
    ·
     have e : j = i := by omega
     subst e
     exact h17
  ·
   refine W_exit ?_
   repeat (first | refine blk_hit ?_ | refine blk_miss rfl ?_)
   refine W_seq (W_region (L_r (r_ai rfl) (L_nil (W_ret ?_))))
   refine ret1 (v := .int _ _) rfl rfl ?_
   refine ⟨?_, Ch.au⟩
   first
   | (have := idxF_at (s := s) T 0 i hil h17 hn
      rw [this, Nat.zero_add]; rfl)
   | (rw [idxF_no T 0 fun j hj => hn j hj (by omega)]; rfl)
/-- What the document says that an operator has. -/
def rtI (t : Bool × Bool × Bool) : Int := if t.2.2 = false then -1 else if t.1 = true then 1 else if t.2.1 = true then 2 else 0
abbrev numOps : List ByteArray := [{ data := #[105, 110, 116] }, { data := #[108, 111, 97, 100] }, { data := #[115, 116, 111, 114, 101] }, { data := #[106, 117, 109, 112] }, { data := #[98, 114, 97, 110, 99, 104] }]
abbrev txtOps : List ByteArray := [{ data := #[119, 111, 114, 100] }, { data := #[110, 101, 119] }, { data := #[103, 101, 116] }, { data := #[112, 117, 116] }, { data := #[99, 97, 108, 108] }, { data := #[97, 114, 114, 97, 121] }, { data := #[105, 115] }, { data := #[99, 97, 115, 116] }]
theorem num_opsB : ((List.range 42).all fun k => !(opT.getD k default).2.1 || numOps.any fun y => decide (y = (opT.getD k default).1)) = true := by decide +kernel
theorem num_ops (k : Nat) (hk : k < 42) (h : (opT.getD k default).2.1 = true) : (opT.getD k default).1 ∈ numOps := by
  have := List.all_eq_true.1 num_opsB k (List.mem_range.2 hk)
  rw [h, Bool.not_true, Bool.false_or] at this
  obtain ⟨y, hy, he⟩ := List.any_eq_true.1 this
  rw [← of_decide_eq_true he]; exact hy
theorem txt_opsB : ((List.range 42).all fun k => !(opT.getD k default).2.2 || txtOps.any fun y => decide (y = (opT.getD k default).1)) = true := by decide +kernel
theorem txt_ops (k : Nat) (hk : k < 42) (h : (opT.getD k default).2.2 = true) : (opT.getD k default).1 ∈ txtOps := by
  have := List.all_eq_true.1 txt_opsB k (List.mem_range.2 hk)
  rw [h, Bool.not_true, Bool.false_or] at this
  obtain ⟨y, hy, he⟩ := List.any_eq_true.1 this
  rw [← of_decide_eq_true he]; exact hy
theorem num_takes : ∀ s ∈ numOps, rtI (takesF s) = 1 := by decide +kernel
theorem txt_takes : ∀ s ∈ txtOps, rtI (takesF s) = 2 := by decide +kernel
theorem rt_none {s : ByteArray} (h : opZ s < 0) : rtI (takesF s) = -1 := by
  unfold opZ at h
  unfold takesF
  cases hk : opIx s with
  | none => rfl
  | some k => rw [hk] at h; have : (k : Int) < 0 := h; omega
theorem rt_zero {s : ByteArray} (h : ¬ opZ s < 0) (h1 : ¬ s ∈ numOps) (h2 : ¬ s ∈ txtOps) : rtI (takesF s) = 0 := by
  unfold opZ at h
  unfold takesF
  cases hk : opIx s with
  | none => rw [hk] at h; exact absurd (by decide) h
  | some k =>
    have hk42 := opIx_lt hk
    obtain ⟨hkl, hks⟩ := opIx_some hk
    have e : (opT.getD k default).1 = s := by rw [List.getD_eq_getElem?_getD, List.getElem?_eq_getElem hkl]; exact hks
    have e1 : (opT.getD k default).2.1 = false := by
      cases hh : (opT.getD k default).2.1 with
      | false => rfl
      | true => exact absurd (e ▸ num_ops k hk42 hh) h1
    have e2 : (opT.getD k default).2.2 = false := by
      cases hh : (opT.getD k default).2.2 with
      | false => rfl
      | true => exact absurd (e ▸ txt_ops k hk42 hh) h2
    simp only [e1, e2]; rfl
def isNum (s : ByteArray) : Prop := s ∈ numOps
noncomputable instance (s : ByteArray) : Decidable (isNum s) := Classical.propDecidable _
def isTxt (s : ByteArray) : Prop := s ∈ txtOps
noncomputable instance (s : ByteArray) : Decidable (isTxt s) := Classical.propDecidable _
theorem rtakes_walk (s : ByteArray) (w0 : World) : Does Tryz.prog 102 #[.string s] w0 (fun r w' => r = .int .i64 (rtI (takesF s)) ∧ Nw w0 w') := by
  refine fn_of (n := 22) (args := [.string s]) Tryz.func102 rfl rfl rfl (W_seq (W_region (L_r (r_ai rfl) (L_nil (W_seq (W_seq (W_region (L_r (r_ms rfl) ?_))))))))
  refine L_nil (W_block (W_seq (W_seq (W_region (L_r (r_eqls rfl rfl) (L_r (r_ab rfl) (L_nil ?_)))))))
  refine W_endF [0, 3] (fun f W => f 4 = .bool (decide (isNum s)) ∧ (Nw w0 W)) ?_ ?_
  ·
   refine W_if rfl (fun h4 => ?_) (fun h4 => ?_)
   ·
    refine W_skip ?_
    refine ⟨⟨fx2, fx2, trivial⟩, (dec_i (by unfold isNum; simp_all)), ?_⟩
    exact Ch.au
   ·
    refine W_seq (W_region (L_r (r_eqls rfl rfl) (L_r (r_ab rfl) (L_nil ?_))))
    refine W_if rfl (fun h4 => ?_) (fun h4 => ?_)
    ·
     refine W_skip ?_
     refine ⟨⟨fx2, fx2, trivial⟩, (dec_i (by unfold isNum; simp_all)), ?_⟩
     exact Ch.au
    ·
     refine W_seq (W_region (L_r (r_eqls rfl rfl) (L_r (r_ab rfl) (L_nil ?_))))
     refine W_if rfl (fun h4 => ?_) (fun h4 => ?_)
     ·
      refine W_skip ?_
      refine ⟨⟨fx2, fx2, trivial⟩, (dec_i (by unfold isNum; simp_all)), ?_⟩
      exact Ch.au
     ·
      refine W_seq (W_region (L_r (r_eqls rfl rfl) (L_r (r_ab rfl) (L_nil ?_))))
      refine W_if rfl (fun h4 => ?_) (fun h4 => ?_)
      ·
       refine W_skip ?_
       refine ⟨⟨fx2, fx2, trivial⟩, (dec_i (by unfold isNum; simp_all)), ?_⟩
       exact Ch.au
      ·
       refine W_region (L_r (r_eqls rfl rfl) (L_r (r_ab rfl) (L_nil ?_)))
       refine ⟨⟨fx2, fx2, trivial⟩, (dec_i (by unfold isNum; simp_all)), ?_⟩
       exact Ch.au
  rintro gct4 w1 ⟨hf4, hCt4⟩
  refine W_as 4 hf4 rfl ?_
  clear hf4
  have hz4 := hCt4.size
  refine W_if rfl (fun h4 => ?_) (fun h4 => ?_)
  ·
   refine W_seq (W_region (L_r (r_ai rfl) (L_nil (W_ret ?_))))
   refine ret1 (v := .int _ _) rfl rfl ?_
   refine ⟨?_, Ch.au⟩
   first
   | contradiction
   | exact congrArg (Value.int .i64) (num_takes s (by first | assumption | simp_all)).symm
   | exact congrArg (Value.int .i64) (txt_takes s (by first | assumption | simp_all)).symm
   | exact congrArg (Value.int .i64) (rt_none (by assumption)).symm
   | exact congrArg (Value.int .i64) (rt_zero (by first | assumption | omega) (by first | assumption | simp_all) (by first | assumption | simp_all)).symm
  ·
   refine W_seq (W_seq (W_region (L_r (r_eqls rfl rfl) (L_r (r_ab rfl) (L_nil ?_)))))
   refine W_endF [0] (fun f W => f 10 = .bool (decide (isTxt s)) ∧ (Nw w0 W)) ?_ ?_
   ·
    refine W_if rfl (fun h10 => ?_) (fun h10 => ?_)
    ·
     refine W_skip ?_
     refine ⟨⟨fx2, trivial⟩, (dec_i (by unfold isTxt; simp_all)), ?_⟩
     exact Ch.au
    ·
     refine W_seq (W_region (L_r (r_eqls rfl rfl) (L_r (r_ab rfl) (L_nil ?_))))
     refine W_if rfl (fun h10 => ?_) (fun h10 => ?_)
     ·
      refine W_skip ?_
      refine ⟨⟨fx2, trivial⟩, (dec_i (by unfold isTxt; simp_all)), ?_⟩
      exact Ch.au
     ·
      refine W_seq (W_region (L_r (r_eqls rfl rfl) (L_r (r_ab rfl) (L_nil ?_))))
      refine W_if rfl (fun h10 => ?_) (fun h10 => ?_)
      ·
       refine W_skip ?_
       refine ⟨⟨fx2, trivial⟩, (dec_i (by unfold isTxt; simp_all)), ?_⟩
       exact Ch.au
      ·
       refine W_seq (W_region (L_r (r_eqls rfl rfl) (L_r (r_ab rfl) (L_nil ?_))))
       refine W_if rfl (fun h10 => ?_) (fun h10 => ?_)
       ·
        refine W_skip ?_
        refine ⟨⟨fx2, trivial⟩, (dec_i (by unfold isTxt; simp_all)), ?_⟩
        exact Ch.au
       ·
        refine W_seq (W_region (L_r (r_eqls rfl rfl) (L_r (r_ab rfl) (L_nil ?_))))
        refine W_if rfl (fun h10 => ?_) (fun h10 => ?_)
        ·
         refine W_skip ?_
         refine ⟨⟨fx2, trivial⟩, (dec_i (by unfold isTxt; simp_all)), ?_⟩
         exact Ch.au
        ·
         refine W_seq (W_region (L_r (r_eqls rfl rfl) (L_r (r_ab rfl) (L_nil ?_))))
         refine W_if rfl (fun h10 => ?_) (fun h10 => ?_)
         ·
          refine W_skip ?_
          refine ⟨⟨fx2, trivial⟩, (dec_i (by unfold isTxt; simp_all)), ?_⟩
          exact Ch.au
         ·
          refine W_seq (W_region (L_r (r_eqls rfl rfl) (L_r (r_ab rfl) (L_nil ?_))))
          refine W_if rfl (fun h10 => ?_) (fun h10 => ?_)
          ·
           refine W_skip ?_
           refine ⟨⟨fx2, trivial⟩, (dec_i (by unfold isTxt; simp_all)), ?_⟩
           exact Ch.au
          ·
           refine W_region (L_r (r_eqls rfl rfl) (L_r (r_ab rfl) (L_nil ?_)))
           refine ⟨⟨fx2, trivial⟩, (dec_i (by unfold isTxt; simp_all)), ?_⟩
           exact Ch.au
   rintro gct10 w2 ⟨hf10, hCt10⟩
   refine W_as 10 hf10 rfl ?_
   clear hf10
   have hz10 := hCt10.size
   refine W_if rfl (fun h10 => ?_) (fun h10 => ?_)
   ·
    refine W_seq (W_region (L_r (r_ai rfl) (L_nil (W_ret ?_))))
    refine ret1 (v := .int _ _) rfl rfl ?_
    refine ⟨?_, Ch.au⟩
    first
    | contradiction
    | exact congrArg (Value.int .i64) (num_takes s (by first | assumption | simp_all)).symm
    | exact congrArg (Value.int .i64) (txt_takes s (by first | assumption | simp_all)).symm
    | exact congrArg (Value.int .i64) (rt_none (by assumption)).symm
    | exact congrArg (Value.int .i64) (rt_zero (by first | assumption | omega) (by first | assumption | simp_all) (by first | assumption | simp_all)).symm
   ·
    refine W_skip (W_seq (W_seq (W_region (L_r (r_ms rfl) ?_))))
    refine L_call (.plain rfl) rfl rfl (r_call Tryz.func101 rfl rfl rfl (by rfl)) (rnumber_walk s _) ?_
    rintro v20 w3 ⟨rfl, c3⟩
    have hz3 := c3.size
    refine L_r (r_lss rfl rfl) (L_nil ?_)
    refine W_if rfl (fun h21 => ?_) (fun h21 => ?_)
    ·
     refine W_seq (W_region (L_r (r_ai rfl) (L_nil (W_ret ?_))))
     refine ret1 (v := .int _ _) rfl rfl ?_
     refine ⟨?_, Ch.au⟩
     first
     | contradiction
     | exact congrArg (Value.int .i64) (num_takes s (by first | assumption | simp_all)).symm
     | exact congrArg (Value.int .i64) (txt_takes s (by first | assumption | simp_all)).symm
     | exact congrArg (Value.int .i64) (rt_none (by assumption)).symm
     | exact congrArg (Value.int .i64) (rt_zero (by first | assumption | omega) (by first | assumption | simp_all) (by first | assumption | simp_all)).symm
    ·
     refine W_skip (W_seq (W_region (L_r (r_ai rfl) (L_nil (W_ret ?_)))))
     refine ret1 (v := .int _ _) rfl rfl ?_
     refine ⟨?_, Ch.au⟩
     first
     | contradiction
     | exact congrArg (Value.int .i64) (num_takes s (by first | assumption | simp_all)).symm
     | exact congrArg (Value.int .i64) (txt_takes s (by first | assumption | simp_all)).symm
     | exact congrArg (Value.int .i64) (rt_none (by assumption)).symm
     | exact congrArg (Value.int .i64) (rt_zero (by first | assumption | omega) (by first | assumption | simp_all) (by first | assumption | simp_all)).symm
end Go.Proofs.YthpknpfhpkkheaaGreatDoor

namespace Go.Proofs.YthpknpfhpkkheaaGreatDoor
open Go Go.RowKit
set_option linter.unusedVariables false
set_option maxRecDepth 100000
set_option linter.unusedSimpArgs false
/-- A flag of bytes. -/
def flagR : List UInt8 → Int × Bool × Nat
  | [] => (10, false, 0)
  | c :: _ => if 1 < c.toNat then (11, false, 0) else (0, decide (c.toNat = 1), 1)
/-- A text of bytes. -/
def textR (m : List UInt8) : Int × List UInt8 × Nat :=
  if (numL 0 m).1 ≠ 0 then ((numL 0 m).1, [], 0) else
  if 4096 < (numL 0 m).2.1 then (12, [], 0) else
  if m.length - (numL 0 m).2.2 < (numL 0 m).2.1 then (10, [], 0) else
  if Lib.validD ((m.drop (numL 0 m).2.2).take (numL 0 m).2.1) = true then (0, (m.drop (numL 0 m).2.2).take (numL 0 m).2.1, (numL 0 m).2.2 + (numL 0 m).2.1) else (11, [], 0)
/-- A count of bytes. -/
def countR (most : Int) (m : List UInt8) : Int × Nat × Nat :=
  if (numL 0 m).1 = 0 ∧ (most < 0 ∨ most < (numL 0 m).2.1 ∨ m.length - (numL 0 m).2.2 < (numL 0 m).2.1) then (12, 0, 0) else numL 0 m
theorem left_walk (base b : Nat) (v : Value) (l : List UInt8) (a : Nat) (e : Int) (w0 : World) (hR : RdAt base w0 b v l a e) : Does Tryz.prog 98 #[.pointer (some ⟨b, 0, none⟩)] w0 (fun r w' => r = .int .i64 ((l.length - a : Nat) : Int) ∧ Nw w0 w') := by
  have hbk := hR.bk
  have ha := hR.ha
  have hl := hR.hl
  have hsl := hR.ow.sl
  refine fn_of (n := 13) (args := [.pointer (some ⟨b, 0, none⟩)]) Tryz.func98 rfl rfl rfl (W_seq (W_region (L_r (r_ai rfl) (L_nil (W_seq ?_)))))
  refine W_still (by kernel_rfl) (by kernel_rfl) (fun w1 c1 hs1 => ?_)
  refine H_r (r_mp rfl) ?_
  refine H_r (r_nilCheck rfl) ?_
  refine H_r (r_fieldb Tryz.underlying106 rfl (show _ = some 1 from rfl) rfl rfl (show _ = 0 from rfl)) ?_
  refine H_r (r_lb rfl rfl) ?_
  refine H_r (r_lenSl Tryz.underlying31 (by conv => lhs; whnf) Sl.au) ?_
  refine H_r (r_mp rfl) ?_
  refine H_r (r_nilCheck rfl) ?_
  refine H_r (r_fieldb Tryz.underlying106 rfl (show _ = some 1 from rfl) rfl rfl (show _ = 1 from rfl)) ?_
  refine H_r (r_lb rfl rfl) ?_
  refine H_r (r_sub rfl rfl (by first | exact wr_i64 (by omega) | rfl)) ?_
  refine H_r (r_ai rfl) ?_
  refine H_nil (W_ret ?_)
  refine ret1 (v := .int _ _) rfl rfl ?_
  exact ⟨congrArg (Value.int _) (by omega), Ch.au⟩
theorem err_walk (base b : Nat) (v : Value) (l : List UInt8) (a : Nat) (e : Int) (w0 : World) (hR : RdAt base w0 b v l a e) : Does Tryz.prog 99 #[.pointer (some ⟨b, 0, none⟩)] w0 (fun r w' => r = .tuple #[.int .i64 (if e = 0 then 0 else a), .int .i64 e] ∧ Nw w0 w') := by
  have hbk := hR.bk
  have ha := hR.ha
  have hl := hR.hl
  refine fn_of (n := 17) (args := [.pointer (some ⟨b, 0, none⟩)]) Tryz.func99 rfl rfl rfl (W_seq (W_region (L_r (r_ai rfl) (L_r (r_ai rfl) (L_nil (W_seq (W_seq (W_region ?_))))))))
  refine L_r (r_mp rfl) (L_r (r_nilCheck rfl) ?_)
  refine L_r (r_fieldb Tryz.underlying106 rfl (show _ = some 1 from rfl) rfl rfl (show _ = 2 from rfl)) (L_r (r_lb rfl rfl) (L_r (r_eql rfl rfl) (L_nil ?_)))
  refine W_if rfl (fun h8 => ?_) (fun h8 => ?_)
  ·
   refine W_seq (W_region (L_r (r_ai rfl) (L_r (r_ai rfl) (L_nil (W_ret ?_)))))
   refine ret2 (u := .int _ _) (v := .int _ _) rfl rfl rfl ?_
   first
   | exact ⟨by rw [if_pos (by assumption)]; congr; exact Eq.symm (by assumption), Ch.au⟩
   | exact ⟨by rw [if_neg (by assumption)], Ch.au⟩
  ·
   refine W_skip (W_seq ?_)
   refine W_still (by kernel_rfl) (by kernel_rfl) (fun w1 c1 hs1 => ?_)
   refine H_r (r_mp rfl) ?_
   refine H_r (r_nilCheck rfl) ?_
   refine H_r (r_fieldb Tryz.underlying106 rfl (show _ = some 1 from rfl) rfl rfl (show _ = 1 from rfl)) ?_
   refine H_r (r_lb rfl rfl) ?_
   refine H_r (r_mp rfl) ?_
   refine H_r (r_nilCheck rfl) ?_
   refine H_r (r_fieldb Tryz.underlying106 rfl (show _ = some 1 from rfl) rfl rfl (show _ = 2 from rfl)) ?_
   refine H_r (r_lb rfl rfl) ?_
   refine H_r (r_ai rfl) ?_
   refine H_r (r_ai rfl) ?_
   refine H_nil (W_ret ?_)
   refine ret2 (u := .int _ _) (v := .int _ _) rfl rfl rfl ?_
   first
   | exact ⟨by rw [if_pos (by assumption)]; congr; exact Eq.symm (by assumption), Ch.au⟩
   | exact ⟨by rw [if_neg (by assumption)], Ch.au⟩
theorem flag_walk (base b q : Nat) (v : Value) (l : List UInt8) (a : Nat) (e : Int) (x0 : Bool) (w0 : World) (hR : RdAt base w0 b v l a e) (hq : Bk w0 q #[.bool x0] 4) (hb : base ≤ w0.heap.size) : Does Tryz.prog 144 #[.pointer (some ⟨b, 0, none⟩), .pointer (some ⟨q, 0, none⟩)] w0 (fun r w' => ∃ (a' : Nat) (x : Bool), r = .int .i64 (flagR (l.drop a)).1 ∧ RdAt base w' b v l a' e ∧ Bk w' q #[.bool x] 4 ∧ Ch (fun j => j = b ∨ j = q) w0 w' ∧ ((flagR (l.drop a)).1 = 0 → a' = a + (flagR (l.drop a)).2.2 ∧ x = (flagR (l.drop a)).2.1)) := by
  have hbk := hR.bk
  have ha := hR.ha
  have hl := hR.hl
  have hnv := hR.nov
  have hsl := hR.ow.sl
  have how := hR.ow
  have hbq : b ≠ q := Bk.ne hbk hq (by decide)
  have hqv := ow_nb hR.ow hq (by decide)
  have hlb := hbk.lt
  have hlq := hq.lt
  refine fn_of (n := 39) (args := [.pointer (some ⟨b, 0, none⟩), .pointer (some ⟨q, 0, none⟩)]) Tryz.func144 rfl rfl rfl (W_seq (W_region (L_r (r_ai rfl) (L_nil (W_seq (W_seq ?_))))))
  refine W_still (by kernel_rfl) (by kernel_rfl) (fun w1 c1 hs1 => ?_)
  refine H_r (r_mp rfl) ?_
  refine H_r (r_nilCheck rfl) ?_
  refine H_r (r_fieldb Tryz.underlying106 rfl (show _ = some 1 from rfl) rfl rfl (show _ = 1 from rfl)) ?_
  refine H_r (r_lb rfl rfl) ?_
  refine H_r (r_mp rfl) ?_
  refine H_r (r_nilCheck rfl) ?_
  refine H_r (r_fieldb Tryz.underlying106 rfl (show _ = some 1 from rfl) rfl rfl (show _ = 0 from rfl)) ?_
  refine H_r (r_lb rfl rfl) ?_
  refine H_r (r_lenSl Tryz.underlying31 (by conv => lhs; whnf) Sl.au) ?_
  refine H_r (r_geq rfl rfl) ?_
  refine H_nil ?_
  refine W_if rfl (fun h15 => ?_) (fun h15 => ?_)
  ·
   have hend : l.drop a = [] := List.drop_eq_nil_of_le (by omega)
   refine W_seq (W_region (L_r (r_ai rfl) (L_nil (W_ret ?_))))
   refine ret1 (v := .int _ _) rfl rfl ?_
   first
   | exact ⟨a, x0, by rw [hend]; rfl, ⟨Bk.au, hR.hb, Ow.au, by omega, hl⟩, Bk.au, Ch.au, by rw [hend]; intro h; exact absurd h (by decide)⟩
   | (have hc : 1 < l[a].toNat := by omega
      have hf : flagR (l.drop a) = (11, false, 0) := by rw [hdr, flagR, if_pos hc]
      rw [hf]
      exact ⟨a + 1, decide ((l[a].toNat : Int) = 1), rfl, ⟨Bk.au, hR.hb, Ow.au, by omega, hl⟩, Bk.au, Ch.au, fun h => absurd h (by decide)⟩)
   | (have hc : ¬ 1 < l[a].toNat := by omega
      have hf : flagR (l.drop a) = (0, decide (l[a].toNat = 1), 1) := by rw [hdr, flagR, if_neg hc]
      rw [hf]
      exact ⟨a + 1, decide ((l[a].toNat : Int) = 1), rfl, ⟨Bk.au, hR.hb, Ow.au, by omega, hl⟩, Bk.au, Ch.au, fun h => ⟨rfl, decide_eq_decide.2 (by omega)⟩⟩)
  ·
   have hin : a < l.length := by omega
   have hct := UInt8.toNat_lt l[a]
   have hdr : l.drop a = l[a] :: l.drop (a + 1) := List.drop_eq_getElem_cons hin
   refine W_skip (W_seq ?_)
   refine W_still (by kernel_rfl) (by kernel_rfl) (fun w2 c2 hs2 => ?_)
   refine H_r (r_mp rfl) ?_
   refine H_r (r_nilCheck rfl) ?_
   refine H_r (r_fieldb Tryz.underlying106 rfl (show _ = some 1 from rfl) rfl rfl (show _ = 0 from rfl)) ?_
   refine H_r (r_lb rfl rfl) ?_
   refine H_r (r_mp rfl) ?_
   refine H_r (r_nilCheck rfl) ?_
   refine H_r (r_fieldb Tryz.underlying106 rfl (show _ = some 1 from rfl) rfl rfl (show _ = 1 from rfl)) ?_
   refine H_r (r_lb rfl rfl) ?_
   refine H_r (r_ix Tryz.underlying31 (show _ = some 1 from rfl) (by conv => lhs; whnf) rfl Sl.au) ?_
   refine H_r (r_loadSl rfl rfl Sl.au (by first | assumption | exact b8_get _ _ (by omega) | (conv => lhs; simp only [List.getElem?_toArray, List.getElem?_cons_succ, List.getElem?_cons_zero]))) ?_
   refine H_r (r_ai rfl) ?_
   refine H_nil (W_seq (W_region (L_r (r_mp rfl) (L_r (r_nilCheck rfl) ?_))))
   refine L_r (r_fieldb Tryz.underlying106 rfl (show _ = some 1 from rfl) rfl rfl (show _ = 1 from rfl)) (L_r (r_lb rfl rfl) ?_)
   refine L_r (r_add rfl rfl (by first | exact wr_i64 (by omega) | rfl)) (L_r (r_nilCheck rfl) ?_)
   refine L_r (r_fieldb Tryz.underlying106 rfl (show _ = some 1 from rfl) rfl rfl (show _ = 1 from rfl)) ?_
   refine L_set (.plain rfl) rfl Bk.au (r_store (v := .int _ _) rfl rfl rfl rfl Bk.au (by first | decide | (simp; done) | omega)) (fun w3 hb3 hs3 c3 => ?_)
   try simp only [List.setIfInBounds_toArray, List.set_cons_zero, List.set_cons_succ] at hb3
   refine L_nil (W_seq (W_region (L_r (r_mp rfl) (L_r (r_mi rfl) (L_r (r_eql rfl rfl) (L_r (r_nilCheck rfl) ?_))))))
   refine L_set (.plain rfl) rfl Bk.au (r_store (v := .bool _) rfl rfl rfl rfl Bk.au (by first | decide | (simp; done) | omega)) (fun w4 hb4 hs4 c4 => ?_)
   try simp only [List.setIfInBounds_toArray, List.set_cons_zero, List.set_cons_succ] at hb4
   refine L_nil (W_seq (W_seq (W_region (L_r (r_mi rfl) (L_r (r_gtr rfl rfl) (L_nil ?_))))))
   refine W_if rfl (fun h38 => ?_) (fun h38 => ?_)
   ·
    refine W_seq (W_region (L_r (r_ai rfl) (L_nil (W_ret ?_))))
    refine ret1 (v := .int _ _) rfl rfl ?_
    first
    | exact ⟨a, x0, by rw [hend]; rfl, ⟨Bk.au, hR.hb, Ow.au, by omega, hl⟩, Bk.au, Ch.au, by rw [hend]; intro h; exact absurd h (by decide)⟩
    | (have hc : 1 < l[a].toNat := by omega
       have hf : flagR (l.drop a) = (11, false, 0) := by rw [hdr, flagR, if_pos hc]
       rw [hf]
       exact ⟨a + 1, decide ((l[a].toNat : Int) = 1), rfl, ⟨Bk.au, hR.hb, Ow.au, by omega, hl⟩, Bk.au, Ch.au, fun h => absurd h (by decide)⟩)
    | (have hc : ¬ 1 < l[a].toNat := by omega
       have hf : flagR (l.drop a) = (0, decide (l[a].toNat = 1), 1) := by rw [hdr, flagR, if_neg hc]
       rw [hf]
       exact ⟨a + 1, decide ((l[a].toNat : Int) = 1), rfl, ⟨Bk.au, hR.hb, Ow.au, by omega, hl⟩, Bk.au, Ch.au, fun h => ⟨rfl, decide_eq_decide.2 (by omega)⟩⟩)
   ·
    refine W_skip (W_seq (W_region (L_r (r_ai rfl) (L_nil (W_ret ?_)))))
    refine ret1 (v := .int _ _) rfl rfl ?_
    first
    | exact ⟨a, x0, by rw [hend]; rfl, ⟨Bk.au, hR.hb, Ow.au, by omega, hl⟩, Bk.au, Ch.au, by rw [hend]; intro h; exact absurd h (by decide)⟩
    | (have hc : 1 < l[a].toNat := by omega
       have hf : flagR (l.drop a) = (11, false, 0) := by rw [hdr, flagR, if_pos hc]
       rw [hf]
       exact ⟨a + 1, decide ((l[a].toNat : Int) = 1), rfl, ⟨Bk.au, hR.hb, Ow.au, by omega, hl⟩, Bk.au, Ch.au, fun h => absurd h (by decide)⟩)
    | (have hc : ¬ 1 < l[a].toNat := by omega
       have hf : flagR (l.drop a) = (0, decide (l[a].toNat = 1), 1) := by rw [hdr, flagR, if_neg hc]
       rw [hf]
       exact ⟨a + 1, decide ((l[a].toNat : Int) = 1), rfl, ⟨Bk.au, hR.hb, Ow.au, by omega, hl⟩, Bk.au, Ch.au, fun h => ⟨rfl, decide_eq_decide.2 (by omega)⟩⟩)
section
variable {m : List UInt8}
theorem textR_err (h : (numL 0 m).1 ≠ 0) : textR m = ((numL 0 m).1, [], 0) := by rw [textR, if_pos h]
theorem textR_big (h0 : ¬ (numL 0 m).1 ≠ 0) (h : 4096 < (numL 0 m).2.1) : textR m = (12, [], 0) := by rw [textR, if_neg h0, if_pos h]
theorem textR_short (h0 : ¬ (numL 0 m).1 ≠ 0) (h1 : ¬ 4096 < (numL 0 m).2.1) (h : m.length - (numL 0 m).2.2 < (numL 0 m).2.1) : textR m = (10, [], 0) := by rw [textR, if_neg h0, if_neg h1, if_pos h]
theorem textR_form (h0 : ¬ (numL 0 m).1 ≠ 0) (h1 : ¬ 4096 < (numL 0 m).2.1) (h2 : ¬ m.length - (numL 0 m).2.2 < (numL 0 m).2.1) (h : ¬ Lib.validD ((m.drop (numL 0 m).2.2).take (numL 0 m).2.1) = true) : textR m = (11, [], 0) := by rw [textR, if_neg h0, if_neg h1, if_neg h2, if_neg h]
theorem textR_good (h0 : ¬ (numL 0 m).1 ≠ 0) (h1 : ¬ 4096 < (numL 0 m).2.1) (h2 : ¬ m.length - (numL 0 m).2.2 < (numL 0 m).2.1) (h : Lib.validD ((m.drop (numL 0 m).2.2).take (numL 0 m).2.1) = true) : textR m = (0, (m.drop (numL 0 m).2.2).take (numL 0 m).2.1, (numL 0 m).2.2 + (numL 0 m).2.1) := by rw [textR, if_neg h0, if_neg h1, if_neg h2, if_pos h]
end
theorem drop_at (l : List UInt8) (a k n : Nat) : ((l.drop a).drop k).take n = (l.drop (a + k)).take n := by rw [List.drop_drop]
theorem text_walk (base b q : Nat) (v : Value) (l : List UInt8) (a : Nat) (e : Int) (x0 : List UInt8) (w0 : World) (hR : RdAt base w0 b v l a e) (hq : Bk w0 q #[.string (sb x0)] 9) (hT : Tabs base w0) (hb : base ≤ w0.heap.size) (hbq : base ≤ q) : Does Tryz.prog 142 #[.pointer (some ⟨b, 0, none⟩), .pointer (some ⟨q, 0, none⟩)] w0 (fun r w' => ∃ (a' : Nat) (x : List UInt8), r = .int .i64 (textR (l.drop a)).1 ∧ RdAt base w' b v l a' e ∧ Bk w' q #[.string (sb x)] 9 ∧ Ch (fun j => j = b ∨ j = q) w0 w' ∧ ((textR (l.drop a)).1 = 0 → a' = a + (textR (l.drop a)).2.2 ∧ x = (textR (l.drop a)).2.1)) := by
  have hbk := hR.bk
  have ha := hR.ha
  have hl := hR.hl
  have hne := Bk.ne hbk hq (by decide)
  have hnv := hR.nov
  have hqv := ow_nb hR.ow hq (by decide)
  have hlb := hbk.lt
  have hlq := hq.lt
  refine fn_of (n := 52) (args := [.pointer (some ⟨b, 0, none⟩), .pointer (some ⟨q, 0, none⟩)]) Tryz.func142 rfl rfl rfl (W_seq (W_region (L_r (r_ai rfl) (L_nil (W_seq (W_region ?_))))))
  refine L_new (.plain rfl) rfl rfl (r_alloc1 rfl rfl) (fun w1 b5 hb5 eb1 hs1 c1 => ?_)
  refine L_set (.plain rfl) rfl Bk.au (r_store (v := .int _ _) rfl rfl rfl rfl Bk.au (by first | decide | (simp; done) | omega)) (fun w2 hb2 hs2 c2 => ?_)
  try simp only [List.setIfInBounds_toArray, List.set_cons_zero, List.set_cons_succ] at hb2
  refine L_nil (W_seq (W_seq (W_region (L_r (r_mp rfl) ?_))))
  refine L_call (.plain rfl) rfl rfl (r_call Tryz.func153 rfl rfl rfl (by rfl)) (number_walk base b _ v l a e 0 _ (hR.nw Ch.au) Bk.au (by omega)) ?_
  rintro v9 w3 ⟨a1, x1, rfl, hR1, hq1, c3, hn1⟩
  have hz3 := c3.size
  have hbk1 := hR1.bk
  have ha1 := hR1.ha
  have how1 := hR1.ow
  have hsl1 := hR1.ow.sl
  refine L_r (r_ai rfl) (L_nil (W_seq (W_region (L_r (r_mi rfl) (L_r (r_neq rfl rfl) (L_nil ?_))))))
  refine W_if rfl (fun h11 => ?_) (fun h11 => ?_)
  ·
   refine W_seq (W_region (L_r (r_mi rfl) (L_r (r_ai rfl) (L_nil (W_ret ?_)))))
   refine ret1 (v := .int _ _) rfl rfl ?_
   first
   | (have hf := textR_err (m := l.drop a) (by assumption)
      rw [hf]
      exact ⟨a1, x0, rfl, ⟨Bk.au, hR.hb, Ow.au, by omega, hl⟩, Bk.au, Ch.au, fun h => absurd h (by assumption)⟩)
   | (have hf := textR_big (m := l.drop a) (by assumption) (by omega)
      rw [hf]
      exact ⟨a1, x0, rfl, ⟨Bk.au, hR.hb, Ow.au, by omega, hl⟩, Bk.au, Ch.au, fun h => absurd h (by decide)⟩)
   | (have hf := textR_short (m := l.drop a) (by assumption) (by omega) (by rw [List.length_drop]; omega)
      rw [hf]
      exact ⟨a1, x0, rfl, ⟨Bk.au, hR.hb, Ow.au, by omega, hl⟩, Bk.au, Ch.au, fun h => absurd h (by decide)⟩)
   | (have hf := textR_form (m := l.drop a) (by assumption) (by omega) (by rw [List.length_drop]; omega) (by rw [drop_at, ← ha2, ← hn]; intro hv; have h39' := h39; simp only [show (sb ((l.drop a1).take n)).data.toList = (l.drop a1).take n from rfl, hv] at h39'; simp at h39')
      rw [hf]
      exact ⟨a1, x0, rfl, ⟨Bk.au, hR.hb, Ow.au, by omega, hl⟩, Bk.au, Ch.au, fun h => absurd h (by decide)⟩)
   | (have hf := textR_good (m := l.drop a) (by assumption) (by omega) (by rw [List.length_drop]; omega) (by rw [drop_at, ← ha2, ← hn]; have h39' := h39; simp at h39'; exact h39')
      rw [hf, drop_at, ← ha2, ← hn]
      subst hx1
      exact ⟨a1 + n, (l.drop a1).take n, rfl, ⟨Bk.au, hR.hb, Ow.au, by omega, hl⟩, Bk.au, Ch.au, fun h => ⟨by show a1 + n = a + ((numL 0 (l.drop a)).2.2 + n); omega, rfl⟩⟩)
  ·
   obtain ⟨ha2, hx0⟩ := hn1 (by omega)
   obtain ⟨n, hn⟩ : ∃ n, n = (numL 0 (l.drop a)).2.1 := ⟨_, rfl⟩
   have hx1 : x1 = (n : Int) := by rw [hn]; exact hx0
   clear hx0
   refine W_skip (W_seq (W_seq (W_region (L_r (r_lb rfl rfl) (L_r (r_gtr rfl rfl) (L_nil ?_))))))
   refine W_if rfl (fun h14 => ?_) (fun h14 => ?_)
   ·
    refine W_seq (W_region (L_r (r_ai rfl) (L_nil (W_ret ?_))))
    refine ret1 (v := .int _ _) rfl rfl ?_
    first
    | (have hf := textR_err (m := l.drop a) (by assumption)
       rw [hf]
       exact ⟨a1, x0, rfl, ⟨Bk.au, hR.hb, Ow.au, by omega, hl⟩, Bk.au, Ch.au, fun h => absurd h (by assumption)⟩)
    | (have hf := textR_big (m := l.drop a) (by assumption) (by omega)
       rw [hf]
       exact ⟨a1, x0, rfl, ⟨Bk.au, hR.hb, Ow.au, by omega, hl⟩, Bk.au, Ch.au, fun h => absurd h (by decide)⟩)
    | (have hf := textR_short (m := l.drop a) (by assumption) (by omega) (by rw [List.length_drop]; omega)
       rw [hf]
       exact ⟨a1, x0, rfl, ⟨Bk.au, hR.hb, Ow.au, by omega, hl⟩, Bk.au, Ch.au, fun h => absurd h (by decide)⟩)
    | (have hf := textR_form (m := l.drop a) (by assumption) (by omega) (by rw [List.length_drop]; omega) (by rw [drop_at, ← ha2, ← hn]; intro hv; have h39' := h39; simp only [show (sb ((l.drop a1).take n)).data.toList = (l.drop a1).take n from rfl, hv] at h39'; simp at h39')
       rw [hf]
       exact ⟨a1, x0, rfl, ⟨Bk.au, hR.hb, Ow.au, by omega, hl⟩, Bk.au, Ch.au, fun h => absurd h (by decide)⟩)
    | (have hf := textR_good (m := l.drop a) (by assumption) (by omega) (by rw [List.length_drop]; omega) (by rw [drop_at, ← ha2, ← hn]; have h39' := h39; simp at h39'; exact h39')
       rw [hf, drop_at, ← ha2, ← hn]
       subst hx1
       exact ⟨a1 + n, (l.drop a1).take n, rfl, ⟨Bk.au, hR.hb, Ow.au, by omega, hl⟩, Bk.au, Ch.au, fun h => ⟨by show a1 + n = a + ((numL 0 (l.drop a)).2.2 + n); omega, rfl⟩⟩)
   ·
    refine W_skip (W_seq (W_seq ?_))
    refine W_draw (fun W => Bk W b5 #[.int .u64 x1] 80 ∧ RdAt base W b v l a1 e) 5 (m := 5) (by kernel_rfl) rfl (fun w4 c4 hs4 => ?_)
    refine held (by exact ⟨Bk.au, hR1.nw Ch.au⟩) (fun hS => ?_)
    refine D_t 0 rfl (fun W hW => r_loadb rfl rfl gw (by first | assumption | (conv => lhs; simp only [List.getElem?_toArray, List.getElem?_cons_succ, List.getElem?_cons_zero]))) ?_
    refine D_t 1 rfl (fun W hW => r_mp rfl) ?_
    refine D_ev 2 (by kernel_rfl) rfl ?_
    refine L_call (.plain rfl) rfl rfl (r_call Tryz.func98 rfl rfl rfl (by rfl)) (left_walk base b v l a1 e _ (hR1.nw Ch.au)) ?_
    rintro v17 w5 ⟨rfl, c5⟩
    have hz5 := c5.size
    refine L_nil ?_
    refine heldK (by exact ⟨Bk.au, hR1.nw Ch.au⟩) (fun hS => ?_)
    refine D_t 3 rfl (fun W hW => r_conv Tryz.underlying3 Tryz.underlying80 rfl (by first | exact wr_u64 (by omega) | rfl)) ?_
    refine D_t 4 rfl (fun W hW => r_gtr rfl rfl) ?_
    refine D_done (by kernel_rfl) ?_
    refine W_if rfl (fun h19 => ?_) (fun h19 => ?_)
    ·
     refine W_seq (W_region (L_r (r_ai rfl) (L_nil (W_ret ?_))))
     refine ret1 (v := .int _ _) rfl rfl ?_
     first
     | (have hf := textR_err (m := l.drop a) (by assumption)
        rw [hf]
        exact ⟨a1, x0, rfl, ⟨Bk.au, hR.hb, Ow.au, by omega, hl⟩, Bk.au, Ch.au, fun h => absurd h (by assumption)⟩)
     | (have hf := textR_big (m := l.drop a) (by assumption) (by omega)
        rw [hf]
        exact ⟨a1, x0, rfl, ⟨Bk.au, hR.hb, Ow.au, by omega, hl⟩, Bk.au, Ch.au, fun h => absurd h (by decide)⟩)
     | (have hf := textR_short (m := l.drop a) (by assumption) (by omega) (by rw [List.length_drop]; omega)
        rw [hf]
        exact ⟨a1, x0, rfl, ⟨Bk.au, hR.hb, Ow.au, by omega, hl⟩, Bk.au, Ch.au, fun h => absurd h (by decide)⟩)
     | (have hf := textR_form (m := l.drop a) (by assumption) (by omega) (by rw [List.length_drop]; omega) (by rw [drop_at, ← ha2, ← hn]; intro hv; have h39' := h39; simp only [show (sb ((l.drop a1).take n)).data.toList = (l.drop a1).take n from rfl, hv] at h39'; simp at h39')
        rw [hf]
        exact ⟨a1, x0, rfl, ⟨Bk.au, hR.hb, Ow.au, by omega, hl⟩, Bk.au, Ch.au, fun h => absurd h (by decide)⟩)
     | (have hf := textR_good (m := l.drop a) (by assumption) (by omega) (by rw [List.length_drop]; omega) (by rw [drop_at, ← ha2, ← hn]; have h39' := h39; simp at h39'; exact h39')
        rw [hf, drop_at, ← ha2, ← hn]
        subst hx1
        exact ⟨a1 + n, (l.drop a1).take n, rfl, ⟨Bk.au, hR.hb, Ow.au, by omega, hl⟩, Bk.au, Ch.au, fun h => ⟨by show a1 + n = a + ((numL 0 (l.drop a)).2.2 + n); omega, rfl⟩⟩)
    ·
     refine W_skip (W_seq ?_)
     refine W_still (by kernel_rfl) (by kernel_rfl) (fun w6 c6 hs6 => ?_)
     refine H_r (r_mp rfl) ?_
     refine H_r (r_nilCheck rfl) ?_
     refine H_r (r_fieldb Tryz.underlying106 rfl (show _ = some 1 from rfl) rfl rfl (show _ = 0 from rfl)) ?_
     refine H_r (r_lb rfl rfl) ?_
     refine H_r (r_mp rfl) ?_
     refine H_r (r_nilCheck rfl) ?_
     refine H_r (r_fieldb Tryz.underlying106 rfl (show _ = some 1 from rfl) rfl rfl (show _ = 1 from rfl)) ?_
     refine H_r (r_lb rfl rfl) ?_
     refine H_r (r_mp rfl) ?_
     refine H_r (r_nilCheck rfl) ?_
     refine H_r (r_fieldb Tryz.underlying106 rfl (show _ = some 1 from rfl) rfl rfl (show _ = 1 from rfl)) ?_
     refine H_r (r_lb rfl rfl) ?_
     refine H_r (r_lb rfl rfl) ?_
     refine H_r (r_conv Tryz.underlying80 Tryz.underlying3 rfl (by first | exact wr_i64 (by omega) | rfl)) ?_
     refine H_r (r_add rfl rfl (by first | exact wr_i64 (by omega) | rfl)) ?_
     refine H_pure (.plain rfl) rfl rfl (cut_lh (w := w6) Tryz.underlying31 (show _ = some 1 from rfl) (by conv => lhs; whnf) Sl.au rfl rfl (by omega) (by omega) (by omega)) ?_
     rintro v35 ⟨hv35, ho35⟩
     have hB35 : Sl w6 v35 1 ((l.drop a1).take n).length (((l.drop a1).take n).map b8) := by
       have e1 : ((l.drop a1).take n).length = ((a1 : Int) + x1).toNat - (a1 : Int).toNat := by rw [List.length_take, List.length_drop]; omega
       have e2 : ((l.drop a1).take n).map b8 = ((l.map b8).take (((a1 : Int) + x1).toNat * 1)).drop ((a1 : Int).toNat * 1) := by
         rw [List.map_take, List.map_drop, List.drop_take]
         congr 1
         · omega
         ·
          congr 1
          omega
       rw [e1, e2]; exact hv35
     refine H_r (r_bstr Tryz.underlying31 Tryz.underlying5 Tryz.underlying9 (by conv => lhs; whnf) Sl.au) ?_
     refine H_r (r_as rfl) ?_
     refine H_nil (W_seq (W_seq (W_region (L_r (r_ms rfl) ?_))))
     refine L_call (.plain rfl) rfl rfl (r_call Tryz.func170 rfl rfl rfl (by rfl)) (valid_walk base _ _ (hT.ch (T := fun j => j = b ∨ j = q) Ch.au hb (fun i h => by rcases h with h | h <;> (rw [h]; first | exact hR.hb | exact hbq))) (by show ((l.drop a1).take n).length ≤ _; rw [List.length_take]; omega)) ?_
     rintro v38 w7 ⟨rfl, c7⟩
     have hz7 := c7.size
     refine L_r (r_not rfl) (L_nil ?_)
     refine W_bool rfl (fun h39 => ?_) (fun h39 => ?_)
     ·
      refine W_seq (W_region (L_r (r_ai rfl) (L_nil (W_ret ?_))))
      refine ret1 (v := .int _ _) rfl rfl ?_
      first
      | (have hf := textR_err (m := l.drop a) (by assumption)
         rw [hf]
         exact ⟨a1, x0, rfl, ⟨Bk.au, hR.hb, Ow.au, by omega, hl⟩, Bk.au, Ch.au, fun h => absurd h (by assumption)⟩)
      | (have hf := textR_big (m := l.drop a) (by assumption) (by omega)
         rw [hf]
         exact ⟨a1, x0, rfl, ⟨Bk.au, hR.hb, Ow.au, by omega, hl⟩, Bk.au, Ch.au, fun h => absurd h (by decide)⟩)
      | (have hf := textR_short (m := l.drop a) (by assumption) (by omega) (by rw [List.length_drop]; omega)
         rw [hf]
         exact ⟨a1, x0, rfl, ⟨Bk.au, hR.hb, Ow.au, by omega, hl⟩, Bk.au, Ch.au, fun h => absurd h (by decide)⟩)
      | (have hf := textR_form (m := l.drop a) (by assumption) (by omega) (by rw [List.length_drop]; omega) (by rw [drop_at, ← ha2, ← hn]; intro hv; have h39' := h39; simp only [show (sb ((l.drop a1).take n)).data.toList = (l.drop a1).take n from rfl, hv] at h39'; simp at h39')
         rw [hf]
         exact ⟨a1, x0, rfl, ⟨Bk.au, hR.hb, Ow.au, by omega, hl⟩, Bk.au, Ch.au, fun h => absurd h (by decide)⟩)
      | (have hf := textR_good (m := l.drop a) (by assumption) (by omega) (by rw [List.length_drop]; omega) (by rw [drop_at, ← ha2, ← hn]; have h39' := h39; simp at h39'; exact h39')
         rw [hf, drop_at, ← ha2, ← hn]
         subst hx1
         exact ⟨a1 + n, (l.drop a1).take n, rfl, ⟨Bk.au, hR.hb, Ow.au, by omega, hl⟩, Bk.au, Ch.au, fun h => ⟨by show a1 + n = a + ((numL 0 (l.drop a)).2.2 + n); omega, rfl⟩⟩)
     ·
      refine W_skip (W_seq ?_)
      refine W_tail 9 (by kernel_rfl) (by kernel_rfl) (fun w8 c8 hs8 => ?_)
      refine H_r (r_mp rfl) ?_
      refine H_r (r_nilCheck rfl) ?_
      refine H_r (r_fieldb Tryz.underlying106 rfl (show _ = some 1 from rfl) rfl rfl (show _ = 1 from rfl)) ?_
      refine H_r (r_lb rfl rfl) ?_
      refine H_r (r_lb rfl rfl) ?_
      refine H_r (r_conv Tryz.underlying80 Tryz.underlying3 rfl (by first | exact wr_i64 (by omega) | rfl)) ?_
      refine H_r (r_add rfl rfl (by first | exact wr_i64 (by omega) | rfl)) ?_
      refine H_r (r_nilCheck rfl) ?_
      refine H_r (r_fieldb Tryz.underlying106 rfl (show _ = some 1 from rfl) rfl rfl (show _ = 1 from rfl)) ?_
      refine H_nil ?_
      refine L_set (.plain rfl) rfl Bk.au (r_store (v := .int _ _) rfl rfl rfl rfl Bk.au (by first | decide | (simp; done) | omega)) (fun w9 hb9 hs9 c9 => ?_)
      try simp only [List.setIfInBounds_toArray, List.set_cons_zero, List.set_cons_succ] at hb9
      refine L_nil (W_seq (W_region (L_r (r_mp rfl) (L_r (r_ms rfl) (L_r (r_nilCheck rfl) ?_)))))
      refine L_set (.plain rfl) rfl Bk.au (r_store (v := .string _) rfl rfl rfl rfl Bk.au (by first | decide | (simp; done) | omega)) (fun w10 hb10 hs10 c10 => ?_)
      try simp only [List.setIfInBounds_toArray, List.set_cons_zero, List.set_cons_succ] at hb10
      refine L_nil (W_seq (W_region (L_r (r_ai rfl) (L_nil (W_ret ?_)))))
      refine ret1 (v := .int _ _) rfl rfl ?_
      first
      | (have hf := textR_err (m := l.drop a) (by assumption)
         rw [hf]
         exact ⟨a1, x0, rfl, ⟨Bk.au, hR.hb, Ow.au, by omega, hl⟩, Bk.au, Ch.au, fun h => absurd h (by assumption)⟩)
      | (have hf := textR_big (m := l.drop a) (by assumption) (by omega)
         rw [hf]
         exact ⟨a1, x0, rfl, ⟨Bk.au, hR.hb, Ow.au, by omega, hl⟩, Bk.au, Ch.au, fun h => absurd h (by decide)⟩)
      | (have hf := textR_short (m := l.drop a) (by assumption) (by omega) (by rw [List.length_drop]; omega)
         rw [hf]
         exact ⟨a1, x0, rfl, ⟨Bk.au, hR.hb, Ow.au, by omega, hl⟩, Bk.au, Ch.au, fun h => absurd h (by decide)⟩)
      | (have hf := textR_form (m := l.drop a) (by assumption) (by omega) (by rw [List.length_drop]; omega) (by rw [drop_at, ← ha2, ← hn]; intro hv; have h39' := h39; simp only [show (sb ((l.drop a1).take n)).data.toList = (l.drop a1).take n from rfl, hv] at h39'; simp at h39')
         rw [hf]
         exact ⟨a1, x0, rfl, ⟨Bk.au, hR.hb, Ow.au, by omega, hl⟩, Bk.au, Ch.au, fun h => absurd h (by decide)⟩)
      | (have hf := textR_good (m := l.drop a) (by assumption) (by omega) (by rw [List.length_drop]; omega) (by rw [drop_at, ← ha2, ← hn]; have h39' := h39; simp at h39'; exact h39')
         rw [hf, drop_at, ← ha2, ← hn]
         subst hx1
         exact ⟨a1 + n, (l.drop a1).take n, rfl, ⟨Bk.au, hR.hb, Ow.au, by omega, hl⟩, Bk.au, Ch.au, fun h => ⟨by show a1 + n = a + ((numL 0 (l.drop a)).2.2 + n); omega, rfl⟩⟩)
end Go.Proofs.YthpknpfhpkkheaaGreatDoor

namespace Go.Proofs.YthpknpfhpkkheaaGreatDoor
open Go Go.RowKit
set_option linter.unusedVariables false
set_option maxRecDepth 100000
set_option linter.unusedSimpArgs false
/-- Where a reader goes on, and its error, when it was asked for something. -/
def nxt (s : Nat × Int) (e : Int) (k : Nat) : Nat × Int := if s.2 ≠ 0 then s else if e ≠ 0 then (s.1, e) else (s.1 + k, 0)
def got {β : Type} (s : Nat × Int) (e : Int) (x d : β) : β := if s.2 = 0 ∧ e = 0 then x else d
theorem nxt_bad {a : Nat} {e : Int} (h : e ≠ 0) (e' : Int) (k : Nat) : nxt (a, e) e' k = (a, e) := if_pos h
theorem nxt_err {a : Nat} {e' : Int} (h : e' ≠ 0) (k : Nat) : nxt (a, 0) e' k = (a, e') := by rw [nxt, if_neg (by simp), if_pos h]
theorem nxt_ok {a : Nat} {e' : Int} (h : e' = 0) (k : Nat) : nxt (a, 0) e' k = (a + k, e') := by subst h; rfl
theorem got_ok {β : Type} {a : Nat} {e' : Int} (h : e' = 0) (x d : β) : got (a, 0) e' x d = x := if_pos ⟨rfl, h⟩
theorem cnum_walk (base b p q : Nat) (v : Value) (l : List UInt8) (a : Nat) (e : Int) (x0 : Int) (w0 : World) (hR : RdAt base w0 b v l a e) (hp : Bk w0 p #[.pointer (some ⟨b, 0, none⟩)] 59) (hq : Bk w0 q #[.int .u64 x0] 80) (hb : base ≤ w0.heap.size) : Does Tryz.prog 171 #[.pointer (some ⟨p, 0, none⟩), .pointer (some ⟨q, 0, none⟩)] w0 (fun r w' => ∃ (a' : Nat) (x : Int), r = .int .i64 (numL 0 (l.drop a)).1 ∧ RdAt base w' b v l a' e ∧ Bk w' q #[.int .u64 x] 80 ∧ Ch (fun j => j = b ∨ j = q) w0 w' ∧ ((numL 0 (l.drop a)).1 = 0 → a' = a + (numL 0 (l.drop a)).2.2 ∧ x = (numL 0 (l.drop a)).2.1)) := by
  refine fn_of (n := 5) (args := [.pointer (some ⟨p, 0, none⟩), .pointer (some ⟨q, 0, none⟩)]) Tryz.func171 rfl rfl rfl (W_seq (W_region (L_r (r_ai rfl) (L_nil (W_seq (W_region (L_r (r_lb rfl rfl) ?_)))))))
  refine L_call (.plain rfl) rfl rfl (r_call Tryz.func153 rfl rfl rfl (by rfl)) (number_walk base b q v l a e x0 _ (hR.nw Ch.au) Bk.au (by omega)) ?_
  rintro v4 w1 ⟨a1, x1, rfl, hR1, hq1, c1, hn1⟩
  have hz1 := c1.size
  refine L_r (r_ai rfl) (L_nil (W_ret ?_))
  refine ret1 (v := .int _ _) rfl rfl ?_
  exact ⟨a1, x1, rfl, hR1.nw Ch.au, Bk.au, Ch.au, hn1⟩
theorem dnum_walk (base b p q : Nat) (v : Value) (l : List UInt8) (a : Nat) (e : Int) (x0 : Int) (w0 : World) (hR : RdAt base w0 b v l a e) (hp : Bk w0 p #[.pointer (some ⟨b, 0, none⟩)] 59) (hq : Bk w0 q #[.int .u64 x0] 80) (hb : base ≤ w0.heap.size) : Does Tryz.prog 140 #[.pointer (some ⟨b, 0, none⟩), .func (.func 171) #[] #[.pointer (some ⟨p, 0, none⟩), .pointer (some ⟨q, 0, none⟩)]] w0 (fun r w' => ∃ x : Int, r = .bool (decide (e = 0 ∧ (numL 0 (l.drop a)).1 = 0)) ∧ RdAt base w' b v l (nxt (a, e) (numL 0 (l.drop a)).1 (numL 0 (l.drop a)).2.2).1 (nxt (a, e) (numL 0 (l.drop a)).1 (numL 0 (l.drop a)).2.2).2 ∧ Bk w' q #[.int .u64 x] 80 ∧ Ch (fun j => j = b ∨ j = q) w0 w' ∧ (e = 0 → (numL 0 (l.drop a)).1 = 0 → x = (numL 0 (l.drop a)).2.1)) := by
  have hbk := hR.bk
  have how := hR.ow
  have ha := hR.ha
  have hl := hR.hl
  have hnv := hR.nov
  have hne := Bk.ne hbk hq (by decide)
  have hqv := ow_nb hR.ow hq (by decide)
  have hlb := hbk.lt
  have hlq := hq.lt
  refine fn_of (n := 29) (args := [.pointer (some ⟨b, 0, none⟩), .func (.func 171) #[] #[.pointer (some ⟨p, 0, none⟩), .pointer (some ⟨q, 0, none⟩)]]) Tryz.func140 rfl rfl rfl (W_seq (W_region (L_r (r_ab rfl) (L_nil (W_seq (W_seq (W_region (L_r (r_mp rfl) ?_))))))))
  refine L_r (r_nilCheck rfl) ?_
  refine L_r (r_fieldb Tryz.underlying106 rfl (show _ = some 1 from rfl) rfl rfl (show _ = 2 from rfl)) (L_r (r_lb rfl rfl) (L_r (r_neq rfl rfl) (L_nil ?_)))
  refine W_if rfl (fun h10 => ?_) (fun h10 => ?_)
  ·
   refine W_seq (W_region (L_r (r_ab rfl) (L_nil (W_ret ?_))))
   refine ret1 (v := .bool _) rfl rfl ?_
   first
   | (have he : e ≠ 0 := by assumption
      rw [nxt_bad he]
      exact ⟨x0, congrArg Value.bool (decide_eq_false (fun h => he h.1)).symm, ⟨Bk.au, hR.hb, Ow.au, by omega, hl⟩, Bk.au, Ch.au, fun h => absurd h he⟩)
   | (obtain rfl : e = 0 := by omega
      have hz : (numL 0 (l.drop a)).1 ≠ 0 := by assumption
      rw [nxt_err hz]
      exact ⟨x1, congrArg Value.bool (decide_eq_false (fun h => hz h.2)).symm, ⟨Bk.au, hR.hb, Ow.au, by omega, hl⟩, Bk.au, Ch.au, fun _ h => absurd h hz⟩)
   | (obtain rfl : e = 0 := by omega
      have hz : (numL 0 (l.drop a)).1 = 0 := by omega
      obtain ⟨hA, hX⟩ := hn1 hz
      subst hA
      rw [nxt_ok hz]
      exact ⟨x1, congrArg Value.bool (decide_eq_true ⟨rfl, hz⟩).symm, ⟨Bk.au, hR.hb, Ow.au, ha1, hl⟩, Bk.au, Ch.au, fun _ _ => hX⟩)
  ·
   refine W_skip (W_seq (W_region (L_r (r_mp rfl) (L_r (r_nilCheck rfl) ?_))))
   refine L_r (r_fieldb Tryz.underlying106 rfl (show _ = some 1 from rfl) rfl rfl (show _ = 1 from rfl)) (L_r (r_lb rfl rfl) (L_r (r_ai rfl) (L_nil (W_seq (W_seq (W_region (L_r (r_mp rfl) (L_r (r_mv) ?_))))))))
   refine L_call (.plain rfl) rfl rfl (r_call Tryz.func171 rfl rfl rfl (by rfl)) (cnum_walk base b p q v l a e x0 _ (hR.nw Ch.au) Bk.au Bk.au (by omega)) ?_
   rintro v17 w1 ⟨a1, x1, rfl, hR1, hq1, c1, hn1⟩
   have hz1 := c1.size
   have hbk1 := hR1.bk
   have ha1 := hR1.ha
   have how1 := hR1.ow
   have hsl1 := hR1.ow.sl
   refine L_r (r_nilCheck rfl) ?_
   refine L_r (r_fieldb Tryz.underlying106 rfl (show _ = some 1 from rfl) rfl rfl (show _ = 2 from rfl)) ?_
   refine L_set (.plain rfl) rfl Bk.au (r_store (v := .int _ _) rfl rfl rfl rfl Bk.au (by first | decide | (simp; done) | omega)) (fun w2 hb2 hs2 c2 => ?_)
   try simp only [List.setIfInBounds_toArray, List.set_cons_zero, List.set_cons_succ] at hb2
   refine L_nil (W_seq (W_region (L_r (r_mp rfl) (L_r (r_nilCheck rfl) ?_))))
   refine L_r (r_fieldb Tryz.underlying106 rfl (show _ = some 1 from rfl) rfl rfl (show _ = 2 from rfl)) (L_r (r_lb rfl rfl) (L_r (r_neq rfl rfl) (L_nil ?_)))
   refine W_if rfl (fun h24 => ?_) (fun h24 => ?_)
   ·
    refine W_seq (W_region (L_r (r_mp rfl) (L_r (r_mi rfl) (L_r (r_nilCheck rfl) ?_))))
    refine L_r (r_fieldb Tryz.underlying106 rfl (show _ = some 1 from rfl) rfl rfl (show _ = 1 from rfl)) ?_
    refine L_set (.plain rfl) rfl Bk.au (r_store (v := .int _ _) rfl rfl rfl rfl Bk.au (by first | decide | (simp; done) | omega)) (fun w3 hb3 hs3 c3 => ?_)
    try simp only [List.setIfInBounds_toArray, List.set_cons_zero, List.set_cons_succ] at hb3
    refine L_nil (W_seq (W_region (L_r (r_ab rfl) (L_nil (W_ret ?_)))))
    refine ret1 (v := .bool _) rfl rfl ?_
    first
    | (have he : e ≠ 0 := by assumption
       rw [nxt_bad he]
       exact ⟨x0, congrArg Value.bool (decide_eq_false (fun h => he h.1)).symm, ⟨Bk.au, hR.hb, Ow.au, by omega, hl⟩, Bk.au, Ch.au, fun h => absurd h he⟩)
    | (obtain rfl : e = 0 := by omega
       have hz : (numL 0 (l.drop a)).1 ≠ 0 := by assumption
       rw [nxt_err hz]
       exact ⟨x1, congrArg Value.bool (decide_eq_false (fun h => hz h.2)).symm, ⟨Bk.au, hR.hb, Ow.au, by omega, hl⟩, Bk.au, Ch.au, fun _ h => absurd h hz⟩)
    | (obtain rfl : e = 0 := by omega
       have hz : (numL 0 (l.drop a)).1 = 0 := by omega
       obtain ⟨hA, hX⟩ := hn1 hz
       subst hA
       rw [nxt_ok hz]
       exact ⟨x1, congrArg Value.bool (decide_eq_true ⟨rfl, hz⟩).symm, ⟨Bk.au, hR.hb, Ow.au, ha1, hl⟩, Bk.au, Ch.au, fun _ _ => hX⟩)
   ·
    refine W_skip (W_seq (W_region (L_r (r_ab rfl) (L_nil (W_ret ?_)))))
    refine ret1 (v := .bool _) rfl rfl ?_
    first
    | (have he : e ≠ 0 := by assumption
       rw [nxt_bad he]
       exact ⟨x0, congrArg Value.bool (decide_eq_false (fun h => he h.1)).symm, ⟨Bk.au, hR.hb, Ow.au, by omega, hl⟩, Bk.au, Ch.au, fun h => absurd h he⟩)
    | (obtain rfl : e = 0 := by omega
       have hz : (numL 0 (l.drop a)).1 ≠ 0 := by assumption
       rw [nxt_err hz]
       exact ⟨x1, congrArg Value.bool (decide_eq_false (fun h => hz h.2)).symm, ⟨Bk.au, hR.hb, Ow.au, by omega, hl⟩, Bk.au, Ch.au, fun _ h => absurd h hz⟩)
    | (obtain rfl : e = 0 := by omega
       have hz : (numL 0 (l.drop a)).1 = 0 := by omega
       obtain ⟨hA, hX⟩ := hn1 hz
       subst hA
       rw [nxt_ok hz]
       exact ⟨x1, congrArg Value.bool (decide_eq_true ⟨rfl, hz⟩).symm, ⟨Bk.au, hR.hb, Ow.au, ha1, hl⟩, Bk.au, Ch.au, fun _ _ => hX⟩)
theorem cflag_walk (base b p q : Nat) (v : Value) (l : List UInt8) (a : Nat) (e : Int) (x0 : Bool) (w0 : World) (hR : RdAt base w0 b v l a e) (hp : Bk w0 p #[.pointer (some ⟨b, 0, none⟩)] 59) (hq : Bk w0 q #[.bool x0] 4) (hb : base ≤ w0.heap.size) : Does Tryz.prog 143 #[.pointer (some ⟨p, 0, none⟩), .pointer (some ⟨q, 0, none⟩)] w0 (fun r w' => ∃ (a' : Nat) (x : Bool), r = .int .i64 (flagR (l.drop a)).1 ∧ RdAt base w' b v l a' e ∧ Bk w' q #[.bool x] 4 ∧ Ch (fun j => j = b ∨ j = q) w0 w' ∧ ((flagR (l.drop a)).1 = 0 → a' = a + (flagR (l.drop a)).2.2 ∧ x = (flagR (l.drop a)).2.1)) := by
  refine fn_of (n := 5) (args := [.pointer (some ⟨p, 0, none⟩), .pointer (some ⟨q, 0, none⟩)]) Tryz.func143 rfl rfl rfl (W_seq (W_region (L_r (r_ai rfl) (L_nil (W_seq (W_region (L_r (r_lb rfl rfl) ?_)))))))
  refine L_call (.plain rfl) rfl rfl (r_call Tryz.func144 rfl rfl rfl (by rfl)) (flag_walk base b q v l a e x0 _ (hR.nw Ch.au) Bk.au (by omega)) ?_
  rintro v4 w1 ⟨a1, x1, rfl, hR1, hq1, c1, hn1⟩
  have hz1 := c1.size
  refine L_r (r_ai rfl) (L_nil (W_ret ?_))
  refine ret1 (v := .int _ _) rfl rfl ?_
  exact ⟨a1, x1, rfl, hR1.nw Ch.au, Bk.au, Ch.au, hn1⟩
theorem dflag_walk (base b p q : Nat) (v : Value) (l : List UInt8) (a : Nat) (e : Int) (x0 : Bool) (w0 : World) (hR : RdAt base w0 b v l a e) (hp : Bk w0 p #[.pointer (some ⟨b, 0, none⟩)] 59) (hq : Bk w0 q #[.bool x0] 4) (hb : base ≤ w0.heap.size) : Does Tryz.prog 140 #[.pointer (some ⟨b, 0, none⟩), .func (.func 143) #[] #[.pointer (some ⟨p, 0, none⟩), .pointer (some ⟨q, 0, none⟩)]] w0 (fun r w' => ∃ x : Bool, r = .bool (decide (e = 0 ∧ (flagR (l.drop a)).1 = 0)) ∧ RdAt base w' b v l (nxt (a, e) (flagR (l.drop a)).1 (flagR (l.drop a)).2.2).1 (nxt (a, e) (flagR (l.drop a)).1 (flagR (l.drop a)).2.2).2 ∧ Bk w' q #[.bool x] 4 ∧ Ch (fun j => j = b ∨ j = q) w0 w' ∧ (e = 0 → (flagR (l.drop a)).1 = 0 → x = (flagR (l.drop a)).2.1)) := by
  have hbk := hR.bk
  have how := hR.ow
  have ha := hR.ha
  have hl := hR.hl
  have hnv := hR.nov
  have hne := Bk.ne hbk hq (by decide)
  have hqv := ow_nb hR.ow hq (by decide)
  have hlb := hbk.lt
  have hlq := hq.lt
  refine fn_of (n := 29) (args := [.pointer (some ⟨b, 0, none⟩), .func (.func 143) #[] #[.pointer (some ⟨p, 0, none⟩), .pointer (some ⟨q, 0, none⟩)]]) Tryz.func140 rfl rfl rfl (W_seq (W_region (L_r (r_ab rfl) (L_nil (W_seq (W_seq (W_region (L_r (r_mp rfl) ?_))))))))
  refine L_r (r_nilCheck rfl) ?_
  refine L_r (r_fieldb Tryz.underlying106 rfl (show _ = some 1 from rfl) rfl rfl (show _ = 2 from rfl)) (L_r (r_lb rfl rfl) (L_r (r_neq rfl rfl) (L_nil ?_)))
  refine W_if rfl (fun h10 => ?_) (fun h10 => ?_)
  ·
   refine W_seq (W_region (L_r (r_ab rfl) (L_nil (W_ret ?_))))
   refine ret1 (v := .bool _) rfl rfl ?_
   first
   | (have he : e ≠ 0 := by assumption
      rw [nxt_bad he]
      exact ⟨x0, congrArg Value.bool (decide_eq_false (fun h => he h.1)).symm, ⟨Bk.au, hR.hb, Ow.au, by omega, hl⟩, Bk.au, Ch.au, fun h => absurd h he⟩)
   | (obtain rfl : e = 0 := by omega
      have hz : (flagR (l.drop a)).1 ≠ 0 := by assumption
      rw [nxt_err hz]
      exact ⟨x1, congrArg Value.bool (decide_eq_false (fun h => hz h.2)).symm, ⟨Bk.au, hR.hb, Ow.au, by omega, hl⟩, Bk.au, Ch.au, fun _ h => absurd h hz⟩)
   | (obtain rfl : e = 0 := by omega
      have hz : (flagR (l.drop a)).1 = 0 := by omega
      obtain ⟨hA, hX⟩ := hn1 hz
      subst hA
      rw [nxt_ok hz]
      exact ⟨x1, congrArg Value.bool (decide_eq_true ⟨rfl, hz⟩).symm, ⟨Bk.au, hR.hb, Ow.au, ha1, hl⟩, Bk.au, Ch.au, fun _ _ => hX⟩)
  ·
   refine W_skip (W_seq (W_region (L_r (r_mp rfl) (L_r (r_nilCheck rfl) ?_))))
   refine L_r (r_fieldb Tryz.underlying106 rfl (show _ = some 1 from rfl) rfl rfl (show _ = 1 from rfl)) (L_r (r_lb rfl rfl) (L_r (r_ai rfl) (L_nil (W_seq (W_seq (W_region (L_r (r_mp rfl) (L_r (r_mv) ?_))))))))
   refine L_call (.plain rfl) rfl rfl (r_call Tryz.func143 rfl rfl rfl (by rfl)) (cflag_walk base b p q v l a e x0 _ (hR.nw Ch.au) Bk.au Bk.au (by omega)) ?_
   rintro v17 w1 ⟨a1, x1, rfl, hR1, hq1, c1, hn1⟩
   have hz1 := c1.size
   have hbk1 := hR1.bk
   have ha1 := hR1.ha
   have how1 := hR1.ow
   have hsl1 := hR1.ow.sl
   refine L_r (r_nilCheck rfl) ?_
   refine L_r (r_fieldb Tryz.underlying106 rfl (show _ = some 1 from rfl) rfl rfl (show _ = 2 from rfl)) ?_
   refine L_set (.plain rfl) rfl Bk.au (r_store (v := .int _ _) rfl rfl rfl rfl Bk.au (by first | decide | (simp; done) | omega)) (fun w2 hb2 hs2 c2 => ?_)
   try simp only [List.setIfInBounds_toArray, List.set_cons_zero, List.set_cons_succ] at hb2
   refine L_nil (W_seq (W_region (L_r (r_mp rfl) (L_r (r_nilCheck rfl) ?_))))
   refine L_r (r_fieldb Tryz.underlying106 rfl (show _ = some 1 from rfl) rfl rfl (show _ = 2 from rfl)) (L_r (r_lb rfl rfl) (L_r (r_neq rfl rfl) (L_nil ?_)))
   refine W_if rfl (fun h24 => ?_) (fun h24 => ?_)
   ·
    refine W_seq (W_region (L_r (r_mp rfl) (L_r (r_mi rfl) (L_r (r_nilCheck rfl) ?_))))
    refine L_r (r_fieldb Tryz.underlying106 rfl (show _ = some 1 from rfl) rfl rfl (show _ = 1 from rfl)) ?_
    refine L_set (.plain rfl) rfl Bk.au (r_store (v := .int _ _) rfl rfl rfl rfl Bk.au (by first | decide | (simp; done) | omega)) (fun w3 hb3 hs3 c3 => ?_)
    try simp only [List.setIfInBounds_toArray, List.set_cons_zero, List.set_cons_succ] at hb3
    refine L_nil (W_seq (W_region (L_r (r_ab rfl) (L_nil (W_ret ?_)))))
    refine ret1 (v := .bool _) rfl rfl ?_
    first
    | (have he : e ≠ 0 := by assumption
       rw [nxt_bad he]
       exact ⟨x0, congrArg Value.bool (decide_eq_false (fun h => he h.1)).symm, ⟨Bk.au, hR.hb, Ow.au, by omega, hl⟩, Bk.au, Ch.au, fun h => absurd h he⟩)
    | (obtain rfl : e = 0 := by omega
       have hz : (flagR (l.drop a)).1 ≠ 0 := by assumption
       rw [nxt_err hz]
       exact ⟨x1, congrArg Value.bool (decide_eq_false (fun h => hz h.2)).symm, ⟨Bk.au, hR.hb, Ow.au, by omega, hl⟩, Bk.au, Ch.au, fun _ h => absurd h hz⟩)
    | (obtain rfl : e = 0 := by omega
       have hz : (flagR (l.drop a)).1 = 0 := by omega
       obtain ⟨hA, hX⟩ := hn1 hz
       subst hA
       rw [nxt_ok hz]
       exact ⟨x1, congrArg Value.bool (decide_eq_true ⟨rfl, hz⟩).symm, ⟨Bk.au, hR.hb, Ow.au, ha1, hl⟩, Bk.au, Ch.au, fun _ _ => hX⟩)
   ·
    refine W_skip (W_seq (W_region (L_r (r_ab rfl) (L_nil (W_ret ?_)))))
    refine ret1 (v := .bool _) rfl rfl ?_
    first
    | (have he : e ≠ 0 := by assumption
       rw [nxt_bad he]
       exact ⟨x0, congrArg Value.bool (decide_eq_false (fun h => he h.1)).symm, ⟨Bk.au, hR.hb, Ow.au, by omega, hl⟩, Bk.au, Ch.au, fun h => absurd h he⟩)
    | (obtain rfl : e = 0 := by omega
       have hz : (flagR (l.drop a)).1 ≠ 0 := by assumption
       rw [nxt_err hz]
       exact ⟨x1, congrArg Value.bool (decide_eq_false (fun h => hz h.2)).symm, ⟨Bk.au, hR.hb, Ow.au, by omega, hl⟩, Bk.au, Ch.au, fun _ h => absurd h hz⟩)
    | (obtain rfl : e = 0 := by omega
       have hz : (flagR (l.drop a)).1 = 0 := by omega
       obtain ⟨hA, hX⟩ := hn1 hz
       subst hA
       rw [nxt_ok hz]
       exact ⟨x1, congrArg Value.bool (decide_eq_true ⟨rfl, hz⟩).symm, ⟨Bk.au, hR.hb, Ow.au, ha1, hl⟩, Bk.au, Ch.au, fun _ _ => hX⟩)
theorem ctext_walk (base b p q : Nat) (v : Value) (l : List UInt8) (a : Nat) (e : Int) (x0 : List UInt8) (w0 : World) (hR : RdAt base w0 b v l a e) (hp : Bk w0 p #[.pointer (some ⟨b, 0, none⟩)] 59) (hq : Bk w0 q #[.string (sb x0)] 9) (hT : Tabs base w0) (hbq : base ≤ q) (hb : base ≤ w0.heap.size) : Does Tryz.prog 141 #[.pointer (some ⟨p, 0, none⟩), .pointer (some ⟨q, 0, none⟩)] w0 (fun r w' => ∃ (a' : Nat) (x : List UInt8), r = .int .i64 (textR (l.drop a)).1 ∧ RdAt base w' b v l a' e ∧ Bk w' q #[.string (sb x)] 9 ∧ Ch (fun j => j = b ∨ j = q) w0 w' ∧ ((textR (l.drop a)).1 = 0 → a' = a + (textR (l.drop a)).2.2 ∧ x = (textR (l.drop a)).2.1)) := by
  refine fn_of (n := 5) (args := [.pointer (some ⟨p, 0, none⟩), .pointer (some ⟨q, 0, none⟩)]) Tryz.func141 rfl rfl rfl (W_seq (W_region (L_r (r_ai rfl) (L_nil (W_seq (W_region (L_r (r_lb rfl rfl) ?_)))))))
  refine L_call (.plain rfl) rfl rfl (r_call Tryz.func142 rfl rfl rfl (by rfl)) (text_walk base b q v l a e x0 _ (hR.nw Ch.au) Bk.au (hT.nw Ch.au hb) (by omega) hbq) ?_
  rintro v4 w1 ⟨a1, x1, rfl, hR1, hq1, c1, hn1⟩
  have hz1 := c1.size
  refine L_r (r_ai rfl) (L_nil (W_ret ?_))
  refine ret1 (v := .int _ _) rfl rfl ?_
  exact ⟨a1, x1, rfl, hR1.nw Ch.au, Bk.au, Ch.au, hn1⟩
theorem dtext_walk (base b p q : Nat) (v : Value) (l : List UInt8) (a : Nat) (e : Int) (x0 : List UInt8) (w0 : World) (hR : RdAt base w0 b v l a e) (hp : Bk w0 p #[.pointer (some ⟨b, 0, none⟩)] 59) (hq : Bk w0 q #[.string (sb x0)] 9) (hT : Tabs base w0) (hbq : base ≤ q) (hb : base ≤ w0.heap.size) : Does Tryz.prog 140 #[.pointer (some ⟨b, 0, none⟩), .func (.func 141) #[] #[.pointer (some ⟨p, 0, none⟩), .pointer (some ⟨q, 0, none⟩)]] w0 (fun r w' => ∃ x : List UInt8, r = .bool (decide (e = 0 ∧ (textR (l.drop a)).1 = 0)) ∧ RdAt base w' b v l (nxt (a, e) (textR (l.drop a)).1 (textR (l.drop a)).2.2).1 (nxt (a, e) (textR (l.drop a)).1 (textR (l.drop a)).2.2).2 ∧ Bk w' q #[.string (sb x)] 9 ∧ Ch (fun j => j = b ∨ j = q) w0 w' ∧ (e = 0 → (textR (l.drop a)).1 = 0 → x = (textR (l.drop a)).2.1)) := by
  have hbk := hR.bk
  have how := hR.ow
  have ha := hR.ha
  have hl := hR.hl
  have hnv := hR.nov
  have hne := Bk.ne hbk hq (by decide)
  have hqv := ow_nb hR.ow hq (by decide)
  have hlb := hbk.lt
  have hlq := hq.lt
  refine fn_of (n := 29) (args := [.pointer (some ⟨b, 0, none⟩), .func (.func 141) #[] #[.pointer (some ⟨p, 0, none⟩), .pointer (some ⟨q, 0, none⟩)]]) Tryz.func140 rfl rfl rfl (W_seq (W_region (L_r (r_ab rfl) (L_nil (W_seq (W_seq (W_region (L_r (r_mp rfl) ?_))))))))
  refine L_r (r_nilCheck rfl) ?_
  refine L_r (r_fieldb Tryz.underlying106 rfl (show _ = some 1 from rfl) rfl rfl (show _ = 2 from rfl)) (L_r (r_lb rfl rfl) (L_r (r_neq rfl rfl) (L_nil ?_)))
  refine W_if rfl (fun h10 => ?_) (fun h10 => ?_)
  ·
   refine W_seq (W_region (L_r (r_ab rfl) (L_nil (W_ret ?_))))
   refine ret1 (v := .bool _) rfl rfl ?_
   first
   | (have he : e ≠ 0 := by assumption
      rw [nxt_bad he]
      exact ⟨x0, congrArg Value.bool (decide_eq_false (fun h => he h.1)).symm, ⟨Bk.au, hR.hb, Ow.au, by omega, hl⟩, Bk.au, Ch.au, fun h => absurd h he⟩)
   | (obtain rfl : e = 0 := by omega
      have hz : (textR (l.drop a)).1 ≠ 0 := by assumption
      rw [nxt_err hz]
      exact ⟨x1, congrArg Value.bool (decide_eq_false (fun h => hz h.2)).symm, ⟨Bk.au, hR.hb, Ow.au, by omega, hl⟩, Bk.au, Ch.au, fun _ h => absurd h hz⟩)
   | (obtain rfl : e = 0 := by omega
      have hz : (textR (l.drop a)).1 = 0 := by omega
      obtain ⟨hA, hX⟩ := hn1 hz
      subst hA
      rw [nxt_ok hz]
      exact ⟨x1, congrArg Value.bool (decide_eq_true ⟨rfl, hz⟩).symm, ⟨Bk.au, hR.hb, Ow.au, ha1, hl⟩, Bk.au, Ch.au, fun _ _ => hX⟩)
  ·
   refine W_skip (W_seq (W_region (L_r (r_mp rfl) (L_r (r_nilCheck rfl) ?_))))
   refine L_r (r_fieldb Tryz.underlying106 rfl (show _ = some 1 from rfl) rfl rfl (show _ = 1 from rfl)) (L_r (r_lb rfl rfl) (L_r (r_ai rfl) (L_nil (W_seq (W_seq (W_region (L_r (r_mp rfl) (L_r (r_mv) ?_))))))))
   refine L_call (.plain rfl) rfl rfl (r_call Tryz.func141 rfl rfl rfl (by rfl)) (ctext_walk base b p q v l a e x0 _ (hR.nw Ch.au) Bk.au Bk.au (hT.nw Ch.au hb) hbq (by omega)) ?_
   rintro v17 w1 ⟨a1, x1, rfl, hR1, hq1, c1, hn1⟩
   have hz1 := c1.size
   have hbk1 := hR1.bk
   have ha1 := hR1.ha
   have how1 := hR1.ow
   have hsl1 := hR1.ow.sl
   refine L_r (r_nilCheck rfl) ?_
   refine L_r (r_fieldb Tryz.underlying106 rfl (show _ = some 1 from rfl) rfl rfl (show _ = 2 from rfl)) ?_
   refine L_set (.plain rfl) rfl Bk.au (r_store (v := .int _ _) rfl rfl rfl rfl Bk.au (by first | decide | (simp; done) | omega)) (fun w2 hb2 hs2 c2 => ?_)
   try simp only [List.setIfInBounds_toArray, List.set_cons_zero, List.set_cons_succ] at hb2
   refine L_nil (W_seq (W_region (L_r (r_mp rfl) (L_r (r_nilCheck rfl) ?_))))
   refine L_r (r_fieldb Tryz.underlying106 rfl (show _ = some 1 from rfl) rfl rfl (show _ = 2 from rfl)) (L_r (r_lb rfl rfl) (L_r (r_neq rfl rfl) (L_nil ?_)))
   refine W_if rfl (fun h24 => ?_) (fun h24 => ?_)
   ·
    refine W_seq (W_region (L_r (r_mp rfl) (L_r (r_mi rfl) (L_r (r_nilCheck rfl) ?_))))
    refine L_r (r_fieldb Tryz.underlying106 rfl (show _ = some 1 from rfl) rfl rfl (show _ = 1 from rfl)) ?_
    refine L_set (.plain rfl) rfl Bk.au (r_store (v := .int _ _) rfl rfl rfl rfl Bk.au (by first | decide | (simp; done) | omega)) (fun w3 hb3 hs3 c3 => ?_)
    try simp only [List.setIfInBounds_toArray, List.set_cons_zero, List.set_cons_succ] at hb3
    refine L_nil (W_seq (W_region (L_r (r_ab rfl) (L_nil (W_ret ?_)))))
    refine ret1 (v := .bool _) rfl rfl ?_
    first
    | (have he : e ≠ 0 := by assumption
       rw [nxt_bad he]
       exact ⟨x0, congrArg Value.bool (decide_eq_false (fun h => he h.1)).symm, ⟨Bk.au, hR.hb, Ow.au, by omega, hl⟩, Bk.au, Ch.au, fun h => absurd h he⟩)
    | (obtain rfl : e = 0 := by omega
       have hz : (textR (l.drop a)).1 ≠ 0 := by assumption
       rw [nxt_err hz]
       exact ⟨x1, congrArg Value.bool (decide_eq_false (fun h => hz h.2)).symm, ⟨Bk.au, hR.hb, Ow.au, by omega, hl⟩, Bk.au, Ch.au, fun _ h => absurd h hz⟩)
    | (obtain rfl : e = 0 := by omega
       have hz : (textR (l.drop a)).1 = 0 := by omega
       obtain ⟨hA, hX⟩ := hn1 hz
       subst hA
       rw [nxt_ok hz]
       exact ⟨x1, congrArg Value.bool (decide_eq_true ⟨rfl, hz⟩).symm, ⟨Bk.au, hR.hb, Ow.au, ha1, hl⟩, Bk.au, Ch.au, fun _ _ => hX⟩)
   ·
    refine W_skip (W_seq (W_region (L_r (r_ab rfl) (L_nil (W_ret ?_)))))
    refine ret1 (v := .bool _) rfl rfl ?_
    first
    | (have he : e ≠ 0 := by assumption
       rw [nxt_bad he]
       exact ⟨x0, congrArg Value.bool (decide_eq_false (fun h => he h.1)).symm, ⟨Bk.au, hR.hb, Ow.au, by omega, hl⟩, Bk.au, Ch.au, fun h => absurd h he⟩)
    | (obtain rfl : e = 0 := by omega
       have hz : (textR (l.drop a)).1 ≠ 0 := by assumption
       rw [nxt_err hz]
       exact ⟨x1, congrArg Value.bool (decide_eq_false (fun h => hz h.2)).symm, ⟨Bk.au, hR.hb, Ow.au, by omega, hl⟩, Bk.au, Ch.au, fun _ h => absurd h hz⟩)
    | (obtain rfl : e = 0 := by omega
       have hz : (textR (l.drop a)).1 = 0 := by omega
       obtain ⟨hA, hX⟩ := hn1 hz
       subst hA
       rw [nxt_ok hz]
       exact ⟨x1, congrArg Value.bool (decide_eq_true ⟨rfl, hz⟩).symm, ⟨Bk.au, hR.hb, Ow.au, ha1, hl⟩, Bk.au, Ch.au, fun _ _ => hX⟩)
theorem countR_big {most : Int} {m : List UInt8} (h : (numL 0 m).1 = 0 ∧ (most < 0 ∨ most < (numL 0 m).2.1 ∨ m.length - (numL 0 m).2.2 < (numL 0 m).2.1)) : countR most m = (12, 0, 0) := if_pos h
theorem countR_else {most : Int} {m : List UInt8} (h : ¬ ((numL 0 m).1 = 0 ∧ (most < 0 ∨ most < (numL 0 m).2.1 ∨ m.length - (numL 0 m).2.2 < (numL 0 m).2.1))) : countR most m = numL 0 m := if_neg h
theorem ccount_walk (base b p q m : Nat) (v : Value) (l : List UInt8) (a : Nat) (e : Int) (x0 most : Int) (w0 : World) (hR : RdAt base w0 b v l a e) (hp : Bk w0 p #[.pointer (some ⟨b, 0, none⟩)] 59) (hq : Bk w0 q #[.int .u64 x0] 80) (hm : Bk w0 m #[.int .i64 most] 3) (hmo : most ≤ 9223372036854775807) (hb : base ≤ w0.heap.size) : Does Tryz.prog 152 #[.pointer (some ⟨p, 0, none⟩), .pointer (some ⟨q, 0, none⟩), .pointer (some ⟨m, 0, none⟩)] w0 (fun r w' => ∃ (a' : Nat) (x : Int), r = .int .i64 (countR most (l.drop a)).1 ∧ RdAt base w' b v l a' e ∧ Bk w' q #[.int .u64 x] 80 ∧ Ch (fun j => j = b ∨ j = q) w0 w' ∧ ((countR most (l.drop a)).1 = 0 → a' = a + (countR most (l.drop a)).2.2 ∧ x = (countR most (l.drop a)).2.1)) := by
  have hpb := Bk.ne hp hR.bk (by decide)
  have hpq := Bk.ne hp hq (by decide)
  have hmb := Bk.ne hm hR.bk (by decide)
  have hmq := Bk.ne hm hq (by decide)
  have hlb := hR.bk.lt
  have hlq := hq.lt
  refine fn_of (n := 27) (args := [.pointer (some ⟨p, 0, none⟩), .pointer (some ⟨q, 0, none⟩), .pointer (some ⟨m, 0, none⟩)]) Tryz.func152 rfl rfl rfl (W_seq (W_region (L_r (r_ai rfl) (L_nil (W_seq (W_region (L_r (r_lb rfl rfl) ?_)))))))
  refine L_call (.plain rfl) rfl rfl (r_call Tryz.func153 rfl rfl rfl (by rfl)) (number_walk base b q v l a e x0 _ (hR.nw Ch.au) Bk.au (by omega)) ?_
  rintro v6 w1 ⟨a1, x1, rfl, hR1, hq1, c1, hn1⟩
  have hz1 := c1.size
  have ha1 := hR1.ha
  have hl1 := hR1.hl
  refine L_r (r_ai rfl) (L_nil (W_seq (W_seq ?_)))
  refine W_draw (fun W => Bk W q #[.int .u64 x1] 80 ∧ Bk W m #[.int .i64 most] 3 ∧ Bk W p #[.pointer (some ⟨b, 0, none⟩)] 59 ∧ RdAt base W b v l a1 e) 19 (m := 19) (by kernel_rfl) rfl (fun w2 c2 hs2 => ?_)
  refine held (by exact ⟨Bk.au, Bk.au, Bk.au, hR1.nw Ch.au⟩) (fun hS => ?_)
  refine D_t 0 rfl (fun W hW => r_mi rfl) ?_
  refine D_t 1 rfl (fun W hW => r_eql rfl rfl) ?_
  refine D_t 2 rfl (fun W hW => r_mb rfl) ?_
  refine D_case (d := 9) rfl (fun h9 => ?_) (fun h9 => ?_)
  ·
   refine D_g 3 rfl (fun W hW => r_loadb rfl rfl (by first | exact hW.1 | exact hW.2.1 | exact hW.2.2.1) (by first | assumption | (conv => lhs; simp only [List.getElem?_toArray, List.getElem?_cons_succ, List.getElem?_cons_zero]))) ?_
   refine D_g 4 rfl (fun W hW => r_lss rfl rfl) ?_
   refine D_g 5 rfl (fun W hW => r_mb rfl) ?_
   refine D_case (d := 12) rfl (fun h12 => ?_) (fun h12 => ?_)
   ·
    refine D_ps 6 rfl ?_
    refine D_ps 7 rfl ?_
    refine D_ps 8 rfl ?_
    refine D_ps 9 rfl ?_
    refine D_g 10 rfl (fun W hW => r_pt rfl rfl) ?_
    refine D_g 11 rfl (fun W hW => r_mb rfl) ?_
    refine D_ps 12 rfl ?_
    refine D_ps 13 rfl ?_
    refine D_ps 14 rfl ?_
    refine D_ps 15 rfl ?_
    refine D_ps 16 rfl ?_
    refine D_g 17 rfl (fun W hW => r_pt rfl rfl) ?_
    refine D_t 18 rfl (fun W hW => r_pt rfl rfl) ?_
    refine D_done (by kernel_rfl) ?_
    refine W_true rfl (W_seq (W_region (L_r (r_ai rfl) (L_nil (W_ret ?_)))))
    refine ret1 (v := .int _ _) rfl rfl ?_
    first
    | (have hz : ¬ (numL 0 (l.drop a)).1 = 0 := by omega
       rw [countR_else (fun h => hz h.1)]
       exact ⟨a1, x1, rfl, hR1.nw Ch.au, Bk.au, Ch.au, hn1⟩)
    | (have hz : (numL 0 (l.drop a)).1 = 0 := by omega
       obtain ⟨hA, hX⟩ := hn1 hz
       have hc : (numL 0 (l.drop a)).1 = 0 ∧ (most < 0 ∨ most < (numL 0 (l.drop a)).2.1 ∨ (l.drop a).length - (numL 0 (l.drop a)).2.2 < (numL 0 (l.drop a)).2.1) := ⟨hz, by rw [List.length_drop]; omega⟩
       rw [countR_big hc]
       exact ⟨a1, x1, rfl, hR1.nw Ch.au, Bk.au, Ch.au, fun h => absurd h (by decide)⟩)
    | (have hz : (numL 0 (l.drop a)).1 = 0 := by omega
       obtain ⟨hA, hX⟩ := hn1 hz
       have hc : ¬ ((numL 0 (l.drop a)).1 = 0 ∧ (most < 0 ∨ most < (numL 0 (l.drop a)).2.1 ∨ (l.drop a).length - (numL 0 (l.drop a)).2.2 < (numL 0 (l.drop a)).2.1)) := by rw [List.length_drop]; omega
       rw [countR_else hc]
       exact ⟨a1, x1, rfl, hR1.nw Ch.au, Bk.au, Ch.au, hn1⟩)
   ·
    refine D_g 6 rfl (fun W hW => r_loadb rfl rfl (by first | exact hW.1 | exact hW.2.1 | exact hW.2.2.1) (by first | assumption | (conv => lhs; simp only [List.getElem?_toArray, List.getElem?_cons_succ, List.getElem?_cons_zero]))) ?_
    refine D_g 7 rfl (fun W hW => r_loadb rfl rfl (by first | exact hW.1 | exact hW.2.1 | exact hW.2.2.1) (by first | assumption | (conv => lhs; simp only [List.getElem?_toArray, List.getElem?_cons_succ, List.getElem?_cons_zero]))) ?_
    refine D_g 8 rfl (fun W hW => r_conv Tryz.underlying3 Tryz.underlying80 rfl (by first | exact wr_u64 (by omega) | rfl)) ?_
    refine D_g 9 rfl (fun W hW => r_gtr rfl rfl) ?_
    refine D_g 10 rfl (fun W hW => r_pf rfl rfl) ?_
    refine D_g 11 rfl (fun W hW => r_mb rfl) ?_
    refine D_case (d := 18) rfl (fun h18 => ?_) (fun h18 => ?_)
    ·
     refine D_ps 12 rfl ?_
     refine D_ps 13 rfl ?_
     refine D_ps 14 rfl ?_
     refine D_ps 15 rfl ?_
     refine D_ps 16 rfl ?_
     refine D_g 17 rfl (fun W hW => r_pt rfl rfl) ?_
     refine D_t 18 rfl (fun W hW => r_pt rfl rfl) ?_
     refine D_done (by kernel_rfl) ?_
     refine W_true rfl (W_seq (W_region (L_r (r_ai rfl) (L_nil (W_ret ?_)))))
     refine ret1 (v := .int _ _) rfl rfl ?_
     first
     | (have hz : ¬ (numL 0 (l.drop a)).1 = 0 := by omega
        rw [countR_else (fun h => hz h.1)]
        exact ⟨a1, x1, rfl, hR1.nw Ch.au, Bk.au, Ch.au, hn1⟩)
     | (have hz : (numL 0 (l.drop a)).1 = 0 := by omega
        obtain ⟨hA, hX⟩ := hn1 hz
        have hc : (numL 0 (l.drop a)).1 = 0 ∧ (most < 0 ∨ most < (numL 0 (l.drop a)).2.1 ∨ (l.drop a).length - (numL 0 (l.drop a)).2.2 < (numL 0 (l.drop a)).2.1) := ⟨hz, by rw [List.length_drop]; omega⟩
        rw [countR_big hc]
        exact ⟨a1, x1, rfl, hR1.nw Ch.au, Bk.au, Ch.au, fun h => absurd h (by decide)⟩)
     | (have hz : (numL 0 (l.drop a)).1 = 0 := by omega
        obtain ⟨hA, hX⟩ := hn1 hz
        have hc : ¬ ((numL 0 (l.drop a)).1 = 0 ∧ (most < 0 ∨ most < (numL 0 (l.drop a)).2.1 ∨ (l.drop a).length - (numL 0 (l.drop a)).2.2 < (numL 0 (l.drop a)).2.1)) := by rw [List.length_drop]; omega
        rw [countR_else hc]
        exact ⟨a1, x1, rfl, hR1.nw Ch.au, Bk.au, Ch.au, hn1⟩)
    ·
     refine D_g 12 rfl (fun W hW => r_loadb rfl rfl (by first | exact hW.1 | exact hW.2.1 | exact hW.2.2.1) (by first | assumption | (conv => lhs; simp only [List.getElem?_toArray, List.getElem?_cons_succ, List.getElem?_cons_zero]))) ?_
     refine D_g 13 rfl (fun W hW => r_loadb rfl rfl (by first | exact hW.1 | exact hW.2.1 | exact hW.2.2.1) (by first | assumption | (conv => lhs; simp only [List.getElem?_toArray, List.getElem?_cons_succ, List.getElem?_cons_zero]))) ?_
     refine D_ev 14 (by kernel_rfl) rfl ?_
     refine L_call (.yes 11 false rfl rfl) rfl rfl (r_call Tryz.func98 rfl rfl rfl (by rfl)) (left_walk base b v l a1 e _ (hR1.nw Ch.au)) ?_
     rintro v21 w3 ⟨rfl, c3⟩
     have hz3 := c3.size
     refine L_nil ?_
     refine heldK (by exact ⟨Bk.au, Bk.au, Bk.au, hR1.nw Ch.au⟩) (fun hS => ?_)
     refine D_g 15 rfl (fun W hW => r_conv Tryz.underlying3 Tryz.underlying80 rfl (by first | exact wr_u64 (by omega) | rfl)) ?_
     refine D_g 16 rfl (fun W hW => r_gtr rfl rfl) ?_
     refine D_g 17 rfl (fun W hW => r_pf rfl rfl) ?_
     refine D_t 18 rfl (fun W hW => r_pt rfl rfl) ?_
     refine D_done (by kernel_rfl) ?_
     refine W_if rfl (fun h25 => ?_) (fun h25 => ?_)
     ·
      refine W_seq (W_region (L_r (r_ai rfl) (L_nil (W_ret ?_))))
      refine ret1 (v := .int _ _) rfl rfl ?_
      first
      | (have hz : ¬ (numL 0 (l.drop a)).1 = 0 := by omega
         rw [countR_else (fun h => hz h.1)]
         exact ⟨a1, x1, rfl, hR1.nw Ch.au, Bk.au, Ch.au, hn1⟩)
      | (have hz : (numL 0 (l.drop a)).1 = 0 := by omega
         obtain ⟨hA, hX⟩ := hn1 hz
         have hc : (numL 0 (l.drop a)).1 = 0 ∧ (most < 0 ∨ most < (numL 0 (l.drop a)).2.1 ∨ (l.drop a).length - (numL 0 (l.drop a)).2.2 < (numL 0 (l.drop a)).2.1) := ⟨hz, by rw [List.length_drop]; omega⟩
         rw [countR_big hc]
         exact ⟨a1, x1, rfl, hR1.nw Ch.au, Bk.au, Ch.au, fun h => absurd h (by decide)⟩)
      | (have hz : (numL 0 (l.drop a)).1 = 0 := by omega
         obtain ⟨hA, hX⟩ := hn1 hz
         have hc : ¬ ((numL 0 (l.drop a)).1 = 0 ∧ (most < 0 ∨ most < (numL 0 (l.drop a)).2.1 ∨ (l.drop a).length - (numL 0 (l.drop a)).2.2 < (numL 0 (l.drop a)).2.1)) := by rw [List.length_drop]; omega
         rw [countR_else hc]
         exact ⟨a1, x1, rfl, hR1.nw Ch.au, Bk.au, Ch.au, hn1⟩)
     ·
      refine W_skip (W_seq (W_region (L_r (r_mi rfl) (L_r (r_ai rfl) (L_nil (W_ret ?_))))))
      refine ret1 (v := .int _ _) rfl rfl ?_
      first
      | (have hz : ¬ (numL 0 (l.drop a)).1 = 0 := by omega
         rw [countR_else (fun h => hz h.1)]
         exact ⟨a1, x1, rfl, hR1.nw Ch.au, Bk.au, Ch.au, hn1⟩)
      | (have hz : (numL 0 (l.drop a)).1 = 0 := by omega
         obtain ⟨hA, hX⟩ := hn1 hz
         have hc : (numL 0 (l.drop a)).1 = 0 ∧ (most < 0 ∨ most < (numL 0 (l.drop a)).2.1 ∨ (l.drop a).length - (numL 0 (l.drop a)).2.2 < (numL 0 (l.drop a)).2.1) := ⟨hz, by rw [List.length_drop]; omega⟩
         rw [countR_big hc]
         exact ⟨a1, x1, rfl, hR1.nw Ch.au, Bk.au, Ch.au, fun h => absurd h (by decide)⟩)
      | (have hz : (numL 0 (l.drop a)).1 = 0 := by omega
         obtain ⟨hA, hX⟩ := hn1 hz
         have hc : ¬ ((numL 0 (l.drop a)).1 = 0 ∧ (most < 0 ∨ most < (numL 0 (l.drop a)).2.1 ∨ (l.drop a).length - (numL 0 (l.drop a)).2.2 < (numL 0 (l.drop a)).2.1)) := by rw [List.length_drop]; omega
         rw [countR_else hc]
         exact ⟨a1, x1, rfl, hR1.nw Ch.au, Bk.au, Ch.au, hn1⟩)
  ·
   refine D_ps 3 rfl ?_
   refine D_ps 4 rfl ?_
   refine D_ps 5 rfl ?_
   refine D_pu 6 rfl ?_
   refine D_pu 7 rfl ?_
   refine D_pu 8 rfl ?_
   refine D_pu 9 rfl ?_
   refine D_ps 10 rfl ?_
   refine D_ps 11 rfl ?_
   refine D_pu 12 rfl ?_
   refine D_pu 13 rfl ?_
   refine D_pu 14 rfl ?_
   refine D_pu 15 rfl ?_
   refine D_pu 16 rfl ?_
   refine D_ps 17 rfl ?_
   refine D_t 18 rfl (fun W hW => r_pf rfl rfl) ?_
   refine D_done (by kernel_rfl) ?_
   refine W_false rfl (W_skip (W_seq (W_region (L_r (r_mi rfl) (L_r (r_ai rfl) (L_nil (W_ret ?_)))))))
   refine ret1 (v := .int _ _) rfl rfl ?_
   first
   | (have hz : ¬ (numL 0 (l.drop a)).1 = 0 := by omega
      rw [countR_else (fun h => hz h.1)]
      exact ⟨a1, x1, rfl, hR1.nw Ch.au, Bk.au, Ch.au, hn1⟩)
   | (have hz : (numL 0 (l.drop a)).1 = 0 := by omega
      obtain ⟨hA, hX⟩ := hn1 hz
      have hc : (numL 0 (l.drop a)).1 = 0 ∧ (most < 0 ∨ most < (numL 0 (l.drop a)).2.1 ∨ (l.drop a).length - (numL 0 (l.drop a)).2.2 < (numL 0 (l.drop a)).2.1) := ⟨hz, by rw [List.length_drop]; omega⟩
      rw [countR_big hc]
      exact ⟨a1, x1, rfl, hR1.nw Ch.au, Bk.au, Ch.au, fun h => absurd h (by decide)⟩)
   | (have hz : (numL 0 (l.drop a)).1 = 0 := by omega
      obtain ⟨hA, hX⟩ := hn1 hz
      have hc : ¬ ((numL 0 (l.drop a)).1 = 0 ∧ (most < 0 ∨ most < (numL 0 (l.drop a)).2.1 ∨ (l.drop a).length - (numL 0 (l.drop a)).2.2 < (numL 0 (l.drop a)).2.1)) := by rw [List.length_drop]; omega
      rw [countR_else hc]
      exact ⟨a1, x1, rfl, hR1.nw Ch.au, Bk.au, Ch.au, hn1⟩)
theorem dcount_walk (base b p q m : Nat) (v : Value) (l : List UInt8) (a : Nat) (e : Int) (x0 : Int) (most : Int) (w0 : World) (hR : RdAt base w0 b v l a e) (hp : Bk w0 p #[.pointer (some ⟨b, 0, none⟩)] 59) (hq : Bk w0 q #[.int .u64 x0] 80) (hm : Bk w0 m #[.int .i64 most] 3) (hmo : most ≤ 9223372036854775807) (hb : base ≤ w0.heap.size) : Does Tryz.prog 140 #[.pointer (some ⟨b, 0, none⟩), .func (.func 152) #[] #[.pointer (some ⟨p, 0, none⟩), .pointer (some ⟨q, 0, none⟩), .pointer (some ⟨m, 0, none⟩)]] w0 (fun r w' => ∃ x : Int, r = .bool (decide (e = 0 ∧ (countR most (l.drop a)).1 = 0)) ∧ RdAt base w' b v l (nxt (a, e) (countR most (l.drop a)).1 (countR most (l.drop a)).2.2).1 (nxt (a, e) (countR most (l.drop a)).1 (countR most (l.drop a)).2.2).2 ∧ Bk w' q #[.int .u64 x] 80 ∧ Ch (fun j => j = b ∨ j = q) w0 w' ∧ (e = 0 → (countR most (l.drop a)).1 = 0 → x = (countR most (l.drop a)).2.1)) := by
  have hbk := hR.bk
  have how := hR.ow
  have ha := hR.ha
  have hl := hR.hl
  have hnv := hR.nov
  have hne := Bk.ne hbk hq (by decide)
  have hqv := ow_nb hR.ow hq (by decide)
  have hlb := hbk.lt
  have hlq := hq.lt
  refine fn_of (n := 29) (args := [.pointer (some ⟨b, 0, none⟩), .func (.func 152) #[] #[.pointer (some ⟨p, 0, none⟩), .pointer (some ⟨q, 0, none⟩), .pointer (some ⟨m, 0, none⟩)]]) Tryz.func140 rfl rfl rfl (W_seq (W_region (L_r (r_ab rfl) (L_nil (W_seq (W_seq (W_region (L_r (r_mp rfl) ?_))))))))
  refine L_r (r_nilCheck rfl) ?_
  refine L_r (r_fieldb Tryz.underlying106 rfl (show _ = some 1 from rfl) rfl rfl (show _ = 2 from rfl)) (L_r (r_lb rfl rfl) (L_r (r_neq rfl rfl) (L_nil ?_)))
  refine W_if rfl (fun h10 => ?_) (fun h10 => ?_)
  ·
   refine W_seq (W_region (L_r (r_ab rfl) (L_nil (W_ret ?_))))
   refine ret1 (v := .bool _) rfl rfl ?_
   first
   | (have he : e ≠ 0 := by assumption
      rw [nxt_bad he]
      exact ⟨x0, congrArg Value.bool (decide_eq_false (fun h => he h.1)).symm, ⟨Bk.au, hR.hb, Ow.au, by omega, hl⟩, Bk.au, Ch.au, fun h => absurd h he⟩)
   | (obtain rfl : e = 0 := by omega
      have hz : (countR most (l.drop a)).1 ≠ 0 := by assumption
      rw [nxt_err hz]
      exact ⟨x1, congrArg Value.bool (decide_eq_false (fun h => hz h.2)).symm, ⟨Bk.au, hR.hb, Ow.au, by omega, hl⟩, Bk.au, Ch.au, fun _ h => absurd h hz⟩)
   | (obtain rfl : e = 0 := by omega
      have hz : (countR most (l.drop a)).1 = 0 := by omega
      obtain ⟨hA, hX⟩ := hn1 hz
      subst hA
      rw [nxt_ok hz]
      exact ⟨x1, congrArg Value.bool (decide_eq_true ⟨rfl, hz⟩).symm, ⟨Bk.au, hR.hb, Ow.au, ha1, hl⟩, Bk.au, Ch.au, fun _ _ => hX⟩)
  ·
   refine W_skip (W_seq (W_region (L_r (r_mp rfl) (L_r (r_nilCheck rfl) ?_))))
   refine L_r (r_fieldb Tryz.underlying106 rfl (show _ = some 1 from rfl) rfl rfl (show _ = 1 from rfl)) (L_r (r_lb rfl rfl) (L_r (r_ai rfl) (L_nil (W_seq (W_seq (W_region (L_r (r_mp rfl) (L_r (r_mv) ?_))))))))
   refine L_call (.plain rfl) rfl rfl (r_call Tryz.func152 rfl rfl rfl (by rfl)) (ccount_walk base b p q m v l a e x0 most _ (hR.nw Ch.au) Bk.au Bk.au Bk.au hmo (by omega)) ?_
   rintro v17 w1 ⟨a1, x1, rfl, hR1, hq1, c1, hn1⟩
   have hz1 := c1.size
   have hbk1 := hR1.bk
   have ha1 := hR1.ha
   have how1 := hR1.ow
   have hsl1 := hR1.ow.sl
   refine L_r (r_nilCheck rfl) ?_
   refine L_r (r_fieldb Tryz.underlying106 rfl (show _ = some 1 from rfl) rfl rfl (show _ = 2 from rfl)) ?_
   refine L_set (.plain rfl) rfl Bk.au (r_store (v := .int _ _) rfl rfl rfl rfl Bk.au (by first | decide | (simp; done) | omega)) (fun w2 hb2 hs2 c2 => ?_)
   try simp only [List.setIfInBounds_toArray, List.set_cons_zero, List.set_cons_succ] at hb2
   refine L_nil (W_seq (W_region (L_r (r_mp rfl) (L_r (r_nilCheck rfl) ?_))))
   refine L_r (r_fieldb Tryz.underlying106 rfl (show _ = some 1 from rfl) rfl rfl (show _ = 2 from rfl)) (L_r (r_lb rfl rfl) (L_r (r_neq rfl rfl) (L_nil ?_)))
   refine W_if rfl (fun h24 => ?_) (fun h24 => ?_)
   ·
    refine W_seq (W_region (L_r (r_mp rfl) (L_r (r_mi rfl) (L_r (r_nilCheck rfl) ?_))))
    refine L_r (r_fieldb Tryz.underlying106 rfl (show _ = some 1 from rfl) rfl rfl (show _ = 1 from rfl)) ?_
    refine L_set (.plain rfl) rfl Bk.au (r_store (v := .int _ _) rfl rfl rfl rfl Bk.au (by first | decide | (simp; done) | omega)) (fun w3 hb3 hs3 c3 => ?_)
    try simp only [List.setIfInBounds_toArray, List.set_cons_zero, List.set_cons_succ] at hb3
    refine L_nil (W_seq (W_region (L_r (r_ab rfl) (L_nil (W_ret ?_)))))
    refine ret1 (v := .bool _) rfl rfl ?_
    first
    | (have he : e ≠ 0 := by assumption
       rw [nxt_bad he]
       exact ⟨x0, congrArg Value.bool (decide_eq_false (fun h => he h.1)).symm, ⟨Bk.au, hR.hb, Ow.au, by omega, hl⟩, Bk.au, Ch.au, fun h => absurd h he⟩)
    | (obtain rfl : e = 0 := by omega
       have hz : (countR most (l.drop a)).1 ≠ 0 := by assumption
       rw [nxt_err hz]
       exact ⟨x1, congrArg Value.bool (decide_eq_false (fun h => hz h.2)).symm, ⟨Bk.au, hR.hb, Ow.au, by omega, hl⟩, Bk.au, Ch.au, fun _ h => absurd h hz⟩)
    | (obtain rfl : e = 0 := by omega
       have hz : (countR most (l.drop a)).1 = 0 := by omega
       obtain ⟨hA, hX⟩ := hn1 hz
       subst hA
       rw [nxt_ok hz]
       exact ⟨x1, congrArg Value.bool (decide_eq_true ⟨rfl, hz⟩).symm, ⟨Bk.au, hR.hb, Ow.au, ha1, hl⟩, Bk.au, Ch.au, fun _ _ => hX⟩)
   ·
    refine W_skip (W_seq (W_region (L_r (r_ab rfl) (L_nil (W_ret ?_)))))
    refine ret1 (v := .bool _) rfl rfl ?_
    first
    | (have he : e ≠ 0 := by assumption
       rw [nxt_bad he]
       exact ⟨x0, congrArg Value.bool (decide_eq_false (fun h => he h.1)).symm, ⟨Bk.au, hR.hb, Ow.au, by omega, hl⟩, Bk.au, Ch.au, fun h => absurd h he⟩)
    | (obtain rfl : e = 0 := by omega
       have hz : (countR most (l.drop a)).1 ≠ 0 := by assumption
       rw [nxt_err hz]
       exact ⟨x1, congrArg Value.bool (decide_eq_false (fun h => hz h.2)).symm, ⟨Bk.au, hR.hb, Ow.au, by omega, hl⟩, Bk.au, Ch.au, fun _ h => absurd h hz⟩)
    | (obtain rfl : e = 0 := by omega
       have hz : (countR most (l.drop a)).1 = 0 := by omega
       obtain ⟨hA, hX⟩ := hn1 hz
       subst hA
       rw [nxt_ok hz]
       exact ⟨x1, congrArg Value.bool (decide_eq_true ⟨rfl, hz⟩).symm, ⟨Bk.au, hR.hb, Ow.au, ha1, hl⟩, Bk.au, Ch.au, fun _ _ => hX⟩)
end Go.Proofs.YthpknpfhpkkheaaGreatDoor

namespace Go.Proofs.YthpknpfhpkkheaaGreatDoor
open Go Go.RowKit
set_option linter.unusedVariables false
set_option maxRecDepth 100000
set_option linter.unusedSimpArgs false
theorem countR_le {most : Int} {m : List UInt8} (h : (countR most m).1 = 0) : (countR most m).2.1 ≤ m.length := by
  unfold countR at h ⊢
  split at h
  · exact absurd h (by decide)
  ·
   rename_i hn
   rw [if_neg hn]
   omega
theorem ow_form {w : World} {base e sz n : Nat} {v : Value} {xs : List Value} (h : Ow w base e sz v n xs) : ∃ a m c, v = .slice a m c := by
  obtain ⟨_, ⟨h, _⟩ | ⟨g, cap, cur, h, _⟩⟩ := h
  · exact ⟨_, _, _, h⟩
  · exact ⟨_, _, _, h⟩
theorem numL_lt : ∀ (m : List UInt8) (i : Nat), i ≤ 9 → (numL i m).2.1 < 2 ^ (64 - 7 * i)
  | [], i, h => by simp [numL]; exact Nat.two_pow_pos _
  | c :: t, i, h => by
    rw [numL]
    split
    · exact Nat.two_pow_pos _
    ·
     rename_i h1
     split
     ·
      split
      · exact Nat.two_pow_pos _
      ·
       show c.toNat < _
       by_cases e : i = 9
       ·
        subst e
        show c.toNat < 2
        omega
       ·
        have h2 : 2 ^ 7 ≤ 2 ^ (64 - 7 * i) := Nat.pow_le_pow_right (by decide) (by omega)
        omega
     ·
      by_cases e : i = 9
      ·
       have := UInt8.toNat_lt c
       omega
      ·
       have h3 := numL_lt t (i + 1) (by omega)
       have h4 : 2 ^ (64 - 7 * i) = 2 ^ (64 - 7 * (i + 1)) * 2 ^ 7 := by rw [← Nat.pow_add]; congr 1; omega
       show c.toNat % 128 + 128 * (numL (i + 1) t).2.1 < _
       omega
theorem got_num_range (a : Nat) (e : Int) (m : List UInt8) : 0 ≤ ((got (a, e) (numL 0 m).1 (numL 0 m).2.1 0 : Nat) : Int) ∧ ((got (a, e) (numL 0 m).1 (numL 0 m).2.1 0 : Nat) : Int) ≤ 18446744073709551615 := by
  have h := numL_lt m 0 (by decide)
  have h2 : 2 ^ (64 - 7 * 0) = 18446744073709551616 := by decide
  rw [h2] at h
  unfold got
  split <;> omega
theorem rdnum_walk (base b : Nat) (v : Value) (l : List UInt8) (a : Nat) (e : Int) (w0 : World) (hR : RdAt base w0 b v l a e) (hb : base ≤ w0.heap.size) : Does Tryz.prog 145 #[.pointer (some ⟨b, 0, none⟩)] w0 (fun r w' => r = .int .u64 ((got (a, e) (numL 0 (l.drop a)).1 (numL 0 (l.drop a)).2.1 0 : Nat) : Int) ∧ RdAt base w' b v l (nxt (a, e) (numL 0 (l.drop a)).1 (numL 0 (l.drop a)).2.2).1 (nxt (a, e) (numL 0 (l.drop a)).1 (numL 0 (l.drop a)).2.2).2 ∧ Ch (fun j => j = b) w0 w') := by
  have hlb := hR.bk.lt
  refine fn_of (n := 9) (args := [.pointer (some ⟨b, 0, none⟩)]) Tryz.func145 rfl rfl rfl (W_seq (W_region ?_))
  refine L_new (.plain rfl) rfl rfl (r_box1 (v := .pointer _) rfl rfl) (fun w1 b1 hb1 eb1 hs1 c1 => (L_r (r_ai rfl) (L_nil (W_seq (W_region ?_)))))
  refine L_new (.plain rfl) rfl rfl (r_alloc1 rfl rfl) (fun w2 b3 hb3 eb2 hs2 c2 => ?_)
  refine L_set (.plain rfl) rfl Bk.au (r_store (v := .int _ _) rfl rfl rfl rfl Bk.au (by first | decide | (simp; done) | omega)) (fun w3 hb3 hs3 c3 => ?_)
  try simp only [List.setIfInBounds_toArray, List.set_cons_zero, List.set_cons_succ] at hb3
  refine L_nil (W_seq (W_seq (W_region (L_r (r_lb rfl rfl) ?_))))
  refine L_r (r_funcL (l1 := []) (l2 := [.pointer _, .pointer _]) rfl rfl) ?_
  refine L_call (.plain rfl) rfl rfl (r_call Tryz.func140 rfl rfl rfl (by rfl)) (dnum_walk base b _ _ v l a e 0 _ (hR.nw Ch.au) Bk.au Bk.au (by omega)) ?_
  rintro v6 w4 ⟨x1, rfl, hR1, hq1, c4, hx1⟩
  have hz4 := c4.size
  refine L_r (r_not rfl) (L_nil ?_)
  refine W_bool rfl (fun h7 => ?_) (fun h7 => ?_)
  ·
   refine W_seq (W_region (L_r (r_ai rfl) (L_nil (W_ret ?_))))
   refine ret1 (v := .int _ _) rfl rfl ?_
   first
   | (have he : e = 0 ∧ (numL 0 (l.drop a)).1 = 0 := by (first | simpa using h7 | (have hq := h7; simp at hq; omega))
      obtain ⟨rfl, hz⟩ := he
      exact ⟨by rw [got_ok hz]; have hxx := hx1 rfl hz; (rw [hxx]), hR1.nw Ch.au, Ch.au⟩)
   | (have he : ¬ (e = 0 ∧ (numL 0 (l.drop a)).1 = 0) := by (first | simpa using h7 | (have hq := h7; simp at hq; omega))
      exact ⟨by (rw [show ∀ x d : Nat, got (a, e) (numL 0 (l.drop a)).1 x d = d from fun x d => if_neg he]) <;> rfl, hR1.nw Ch.au, Ch.au⟩)
  ·
   refine W_skip (W_seq (W_region (L_r (r_lb rfl rfl) (L_r (r_ai rfl) (L_nil (W_ret ?_))))))
   refine ret1 (v := .int _ _) rfl rfl ?_
   first
   | (have he : e = 0 ∧ (numL 0 (l.drop a)).1 = 0 := by (first | simpa using h7 | (have hq := h7; simp at hq; omega))
      obtain ⟨rfl, hz⟩ := he
      exact ⟨by rw [got_ok hz]; have hxx := hx1 rfl hz; (rw [hxx]), hR1.nw Ch.au, Ch.au⟩)
   | (have he : ¬ (e = 0 ∧ (numL 0 (l.drop a)).1 = 0) := by (first | simpa using h7 | (have hq := h7; simp at hq; omega))
      exact ⟨by (rw [show ∀ x d : Nat, got (a, e) (numL 0 (l.drop a)).1 x d = d from fun x d => if_neg he]) <;> rfl, hR1.nw Ch.au, Ch.au⟩)
theorem rdflag_walk (base b : Nat) (v : Value) (l : List UInt8) (a : Nat) (e : Int) (w0 : World) (hR : RdAt base w0 b v l a e) (hb : base ≤ w0.heap.size) : Does Tryz.prog 89 #[.pointer (some ⟨b, 0, none⟩)] w0 (fun r w' => r = .bool (got (a, e) (flagR (l.drop a)).1 (flagR (l.drop a)).2.1 false) ∧ RdAt base w' b v l (nxt (a, e) (flagR (l.drop a)).1 (flagR (l.drop a)).2.2).1 (nxt (a, e) (flagR (l.drop a)).1 (flagR (l.drop a)).2.2).2 ∧ Ch (fun j => j = b) w0 w') := by
  have hlb := hR.bk.lt
  refine fn_of (n := 10) (args := [.pointer (some ⟨b, 0, none⟩)]) Tryz.func89 rfl rfl rfl (W_seq (W_region ?_))
  refine L_new (.plain rfl) rfl rfl (r_box1 (v := .pointer _) rfl rfl) (fun w1 b1 hb1 eb1 hs1 c1 => (L_r (r_ab rfl) (L_nil (W_seq (W_region ?_)))))
  refine L_new (.plain rfl) rfl rfl (r_alloc1 rfl rfl) (fun w2 b3 hb3 eb2 hs2 c2 => ?_)
  refine L_set (.plain rfl) rfl Bk.au (r_store (v := .bool _) rfl rfl rfl rfl Bk.au (by first | decide | (simp; done) | omega)) (fun w3 hb3 hs3 c3 => ?_)
  try simp only [List.setIfInBounds_toArray, List.set_cons_zero, List.set_cons_succ] at hb3
  refine L_nil (W_seq (W_region (L_r (r_lb rfl rfl) ?_)))
  refine L_r (r_funcL (l1 := []) (l2 := [.pointer _, .pointer _]) rfl rfl) ?_
  refine L_call (.plain rfl) rfl rfl (r_call Tryz.func140 rfl rfl rfl (by rfl)) (dflag_walk base b _ _ v l a e false _ (hR.nw Ch.au) Bk.au Bk.au (by omega)) ?_
  rintro v6 w4 ⟨x1, rfl, hR1, hq1, c4, hx1⟩
  have hz4 := c4.size
  refine L_r (r_mb rfl) ?_
  refine L_caseb (d := 7) rfl (fun h7 => ?_) (fun h7 => ?_)
  ·
   refine L_g (r_lb rfl rfl) (L_r (r_pt rfl rfl) (L_r (r_ab rfl) (L_nil (W_ret ?_))))
   refine ret1 (v := .bool _) rfl rfl ?_
   first
   | (have he : e = 0 ∧ (flagR (l.drop a)).1 = 0 := by (first | simpa using h7 | (have hq := h7; simp at hq; omega))
      obtain ⟨rfl, hz⟩ := he
      exact ⟨by rw [got_ok hz]; have hxx := hx1 rfl hz; (rw [hxx]), hR1.nw Ch.au, Ch.au⟩)
   | (have he : ¬ (e = 0 ∧ (flagR (l.drop a)).1 = 0) := by (first | simpa using h7 | (have hq := h7; simp at hq; omega))
      exact ⟨by (rw [show ∀ x d : Bool, got (a, e) (flagR (l.drop a)).1 x d = d from fun x d => if_neg he]) <;> rfl, hR1.nw Ch.au, Ch.au⟩)
  ·
   refine L_ps (L_r (r_pf rfl rfl) (L_r (r_ab rfl) (L_nil (W_ret ?_))))
   refine ret1 (v := .bool _) rfl rfl ?_
   first
   | (have he : e = 0 ∧ (flagR (l.drop a)).1 = 0 := by (first | simpa using h7 | (have hq := h7; simp at hq; omega))
      obtain ⟨rfl, hz⟩ := he
      exact ⟨by rw [got_ok hz]; have hxx := hx1 rfl hz; (rw [hxx]), hR1.nw Ch.au, Ch.au⟩)
   | (have he : ¬ (e = 0 ∧ (flagR (l.drop a)).1 = 0) := by (first | simpa using h7 | (have hq := h7; simp at hq; omega))
      exact ⟨by (rw [show ∀ x d : Bool, got (a, e) (flagR (l.drop a)).1 x d = d from fun x d => if_neg he]) <;> rfl, hR1.nw Ch.au, Ch.au⟩)
theorem rdcount_walk (base b : Nat) (v : Value) (l : List UInt8) (a : Nat) (e : Int) (most : Int) (w0 : World) (hR : RdAt base w0 b v l a e) (hmo : most ≤ 9223372036854775807) (hb : base ≤ w0.heap.size) : Does Tryz.prog 110 #[.pointer (some ⟨b, 0, none⟩), .int .i64 most] w0 (fun r w' => r = .int .i64 ((got (a, e) (countR most (l.drop a)).1 (countR most (l.drop a)).2.1 0 : Nat) : Int) ∧ RdAt base w' b v l (nxt (a, e) (countR most (l.drop a)).1 (countR most (l.drop a)).2.2).1 (nxt (a, e) (countR most (l.drop a)).1 (countR most (l.drop a)).2.2).2 ∧ Ch (fun j => j = b) w0 w') := by
  have hlb := hR.bk.lt
  refine fn_of (n := 14) (args := [.pointer (some ⟨b, 0, none⟩), .int .i64 most]) Tryz.func110 rfl rfl rfl (W_seq (W_region ?_))
  refine L_new (.plain rfl) rfl rfl (r_box1 (v := .pointer _) rfl rfl) (fun w1 b2 hb2 eb1 hs1 c1 => ?_)
  refine L_new (.plain rfl) rfl rfl (r_box1 (v := .int _ _) rfl rfl) (fun w2 b3 hb3 eb2 hs2 c2 => (L_r (r_ai rfl) (L_nil (W_seq (W_region ?_)))))
  refine L_new (.plain rfl) rfl rfl (r_alloc1 rfl rfl) (fun w3 b5 hb5 eb3 hs3 c3 => ?_)
  refine L_set (.plain rfl) rfl Bk.au (r_store (v := .int _ _) rfl rfl rfl rfl Bk.au (by first | decide | (simp; done) | omega)) (fun w4 hb4 hs4 c4 => ?_)
  try simp only [List.setIfInBounds_toArray, List.set_cons_zero, List.set_cons_succ] at hb4
  refine L_nil (W_seq (W_region (L_r (r_lb rfl rfl) ?_)))
  refine L_r (r_funcL (l1 := []) (l2 := [.pointer _, .pointer _, .pointer _]) rfl rfl) ?_
  refine L_call (.plain rfl) rfl rfl (r_call Tryz.func140 rfl rfl rfl (by rfl)) (dcount_walk base b _ _ _ v l a e 0 most _ (hR.nw Ch.au) Bk.au Bk.au Bk.au hmo (by omega)) ?_
  rintro v9 w5 ⟨x1, rfl, hR1, hq1, c5, hx1⟩
  have hz5 := c5.size
  refine L_r (r_ab rfl) (L_nil (W_seq (W_seq (W_region (L_r (r_mb rfl) (L_r (r_not rfl) (L_nil ?_)))))))
  refine W_bool rfl (fun h11 => ?_) (fun h11 => ?_)
  ·
   refine W_seq (W_region (L_r (r_ai rfl) (L_nil (W_ret ?_))))
   refine ret1 (v := .int _ _) rfl rfl ?_
   first
   | (have he : e = 0 ∧ (countR most (l.drop a)).1 = 0 := by (first | simpa using h11 | (have hq := h11; simp at hq; omega))
      obtain ⟨rfl, hz⟩ := he
      exact ⟨by rw [got_ok hz]; have hxx := hx1 rfl hz; (rw [hxx]), hR1.nw Ch.au, Ch.au⟩)
   | (have he : ¬ (e = 0 ∧ (countR most (l.drop a)).1 = 0) := by (first | simpa using h11 | (have hq := h11; simp at hq; omega))
      exact ⟨by (rw [show ∀ x d : Nat, got (a, e) (countR most (l.drop a)).1 x d = d from fun x d => if_neg he]) <;> rfl, hR1.nw Ch.au, Ch.au⟩)
  ·
   have hcond : e = 0 ∧ (countR most (l.drop a)).1 = 0 := by simpa using h11
   have hle := countR_le hcond.2
   have hxl := hx1 hcond.1 hcond.2
   have hrl := hR.hl
   rw [List.length_drop] at hle
   refine W_skip (W_seq (W_region (L_r (r_lb rfl rfl) ?_)))
   refine L_r (r_conv Tryz.underlying80 Tryz.underlying3 rfl (by first | exact wr_i64 (by omega) | rfl)) (L_r (r_ai rfl) (L_nil (W_ret ?_)))
   refine ret1 (v := .int _ _) rfl rfl ?_
   first
   | (have he : e = 0 ∧ (countR most (l.drop a)).1 = 0 := by (first | simpa using h11 | (have hq := h11; simp at hq; omega))
      obtain ⟨rfl, hz⟩ := he
      exact ⟨by rw [got_ok hz]; have hxx := hx1 rfl hz; (rw [hxx]), hR1.nw Ch.au, Ch.au⟩)
   | (have he : ¬ (e = 0 ∧ (countR most (l.drop a)).1 = 0) := by (first | simpa using h11 | (have hq := h11; simp at hq; omega))
      exact ⟨by (rw [show ∀ x d : Nat, got (a, e) (countR most (l.drop a)).1 x d = d from fun x d => if_neg he]) <;> rfl, hR1.nw Ch.au, Ch.au⟩)
theorem rdtext_walk (base b : Nat) (v : Value) (l : List UInt8) (a : Nat) (e : Int) (w0 : World) (hR : RdAt base w0 b v l a e) (hT : Tabs base w0) (hb : base ≤ w0.heap.size) : Does Tryz.prog 87 #[.pointer (some ⟨b, 0, none⟩)] w0 (fun r w' => r = .string (sb (got (a, e) (textR (l.drop a)).1 (textR (l.drop a)).2.1 [])) ∧ RdAt base w' b v l (nxt (a, e) (textR (l.drop a)).1 (textR (l.drop a)).2.2).1 (nxt (a, e) (textR (l.drop a)).1 (textR (l.drop a)).2.2).2 ∧ Ch (fun j => j = b) w0 w') := by
  have hlb := hR.bk.lt
  refine fn_of (n := 9) (args := [.pointer (some ⟨b, 0, none⟩)]) Tryz.func87 rfl rfl rfl (W_seq (W_region ?_))
  refine L_new (.plain rfl) rfl rfl (r_box1 (v := .pointer _) rfl rfl) (fun w1 b1 hb1 eb1 hs1 c1 => (L_r (r_as rfl) (L_nil (W_seq (W_region ?_)))))
  refine L_new (.plain rfl) rfl rfl (r_alloc1 rfl rfl) (fun w2 b3 hb3 eb2 hs2 c2 => ?_)
  refine L_set (.plain rfl) rfl Bk.au (r_store (v := .string _) rfl rfl rfl rfl Bk.au (by first | decide | (simp; done) | omega)) (fun w3 hb3 hs3 c3 => ?_)
  try simp only [List.setIfInBounds_toArray, List.set_cons_zero, List.set_cons_succ] at hb3
  refine L_nil (W_seq (W_seq (W_region (L_r (r_lb rfl rfl) ?_))))
  refine L_r (r_funcL (l1 := []) (l2 := [.pointer _, .pointer _]) rfl rfl) ?_
  refine L_call (.plain rfl) rfl rfl (r_call Tryz.func140 rfl rfl rfl (by rfl)) (dtext_walk base b _ _ v l a e [] _ (hR.nw Ch.au) Bk.au Bk.au (hT.nw Ch.au hb) (by omega) (by omega)) ?_
  rintro v6 w4 ⟨x1, rfl, hR1, hq1, c4, hx1⟩
  have hz4 := c4.size
  refine L_r (r_not rfl) (L_nil ?_)
  refine W_bool rfl (fun h7 => ?_) (fun h7 => ?_)
  ·
   refine W_seq (W_region (L_r (r_as rfl) (L_nil (W_ret ?_))))
   refine ret1 (v := .string _) rfl rfl ?_
   first
   | (have he : e = 0 ∧ (textR (l.drop a)).1 = 0 := by (first | simpa using h7 | (have hq := h7; simp at hq; omega))
      obtain ⟨rfl, hz⟩ := he
      exact ⟨by rw [got_ok hz]; have hxx := hx1 rfl hz; (rw [hxx]), hR1.nw Ch.au, Ch.au⟩)
   | (have he : ¬ (e = 0 ∧ (textR (l.drop a)).1 = 0) := by (first | simpa using h7 | (have hq := h7; simp at hq; omega))
      exact ⟨by (rw [show ∀ x d : List UInt8, got (a, e) (textR (l.drop a)).1 x d = d from fun x d => if_neg he]) <;> rfl, hR1.nw Ch.au, Ch.au⟩)
  ·
   refine W_skip (W_seq (W_region (L_r (r_lb rfl rfl) (L_r (r_as rfl) (L_nil (W_ret ?_))))))
   refine ret1 (v := .string _) rfl rfl ?_
   first
   | (have he : e = 0 ∧ (textR (l.drop a)).1 = 0 := by (first | simpa using h7 | (have hq := h7; simp at hq; omega))
      obtain ⟨rfl, hz⟩ := he
      exact ⟨by rw [got_ok hz]; have hxx := hx1 rfl hz; (rw [hxx]), hR1.nw Ch.au, Ch.au⟩)
   | (have he : ¬ (e = 0 ∧ (textR (l.drop a)).1 = 0) := by (first | simpa using h7 | (have hq := h7; simp at hq; omega))
      exact ⟨by (rw [show ∀ x d : List UInt8, got (a, e) (textR (l.drop a)).1 x d = d from fun x d => if_neg he]) <;> rfl, hR1.nw Ch.au, Ch.au⟩)
theorem rdint_walk (base b : Nat) (v : Value) (l : List UInt8) (a : Nat) (e : Int) (w0 : World) (hR : RdAt base w0 b v l a e) (hb : base ≤ w0.heap.size) : Does Tryz.prog 146 #[.pointer (some ⟨b, 0, none⟩)] w0 (fun r w' => r = .int .i64 (zagI (got (a, e) (numL 0 (l.drop a)).1 (numL 0 (l.drop a)).2.1 0 : Nat)) ∧ RdAt base w' b v l (nxt (a, e) (numL 0 (l.drop a)).1 (numL 0 (l.drop a)).2.2).1 (nxt (a, e) (numL 0 (l.drop a)).1 (numL 0 (l.drop a)).2.2).2 ∧ Ch (fun j => j = b) w0 w') := by
  refine fn_of (n := 6) (args := [.pointer (some ⟨b, 0, none⟩)]) Tryz.func146 rfl rfl rfl (W_seq (W_region (L_r (r_ai rfl) (L_nil (W_seq (W_region (L_r (r_mp rfl) ?_)))))))
  refine L_call (.plain rfl) rfl rfl (r_call Tryz.func145 rfl rfl rfl (by rfl)) (rdnum_walk base b v l a e _ (hR.nw Ch.au) (by omega)) ?_
  rintro v4 w1 ⟨rfl, hR1, c1⟩
  have hz1 := c1.size
  refine L_call (.plain rfl) rfl rfl (r_call Tryz.func172 rfl rfl rfl (by rfl)) (zag_walk _ _ (got_num_range a e (l.drop a))) ?_
  rintro v5 w2 ⟨rfl, rfl⟩
  refine L_r (r_ai rfl) (L_nil (W_ret ?_))
  refine ret1 (v := .int _ _) rfl rfl ?_
  exact ⟨rfl, hR1.nw Ch.au, Ch.au⟩
theorem rdend_walk (base b : Nat) (v : Value) (l : List UInt8) (a : Nat) (e : Int) (w0 : World) (hR : RdAt base w0 b v l a e) : Does Tryz.prog 35 #[.pointer (some ⟨b, 0, none⟩)] w0 (fun r w' => r = .tuple #[.int .i64 (if e = 0 ∧ a = l.length then 0 else a), .int .i64 (if e = 0 ∧ a ≠ l.length then 13 else e)] ∧ Nw w0 w') := by
  have hbk := hR.bk
  have ha := hR.ha
  refine fn_of (n := 25) (args := [.pointer (some ⟨b, 0, none⟩)]) Tryz.func35 rfl rfl rfl (W_seq (W_region (L_r (r_ai rfl) (L_r (r_ai rfl) (L_nil (W_seq (W_region (L_r (r_mp rfl) ?_))))))))
  refine L_r (r_funcL (l1 := [_]) (l2 := []) rfl rfl) (L_r (r_av) (L_nil (W_seq (W_seq (W_region (L_r (r_mp rfl) (L_r (r_nilCheck rfl) ?_)))))))
  refine L_r (r_fieldb Tryz.underlying106 rfl (show _ = some 1 from rfl) rfl rfl (show _ = 2 from rfl)) (L_r (r_lb rfl rfl) (L_r (r_eql rfl rfl) (L_r (r_mb rfl) ?_)))
  refine L_case (d := 12) rfl (fun h12 => ?_) (fun h12 => ?_)
  ·
   refine L_g (r_mv) ?_
   refine L_call (.yes 5 true rfl rfl) rfl rfl (r_call Tryz.func98 rfl rfl rfl (by rfl)) (left_walk base b v l a e _ (hR.nw Ch.au)) ?_
   rintro v14 w1 ⟨rfl, c1⟩
   have hz1 := c1.size
   refine L_g (r_gtr rfl rfl) (L_r (r_pt rfl rfl) (L_nil ?_))
   refine W_if rfl (fun h16 => ?_) (fun h16 => ?_)
   ·
    refine W_seq (W_region (L_r (r_mp rfl) (L_r (r_nilCheck rfl) ?_)))
    refine L_r (r_fieldb Tryz.underlying106 rfl (show _ = some 1 from rfl) rfl rfl (show _ = 1 from rfl)) (L_r (r_lb rfl rfl) (L_r (r_ai rfl) (L_r (r_ai rfl) (L_nil (W_ret ?_)))))
    refine ret2 (u := .int _ _) (v := .int _ _) rfl rfl rfl ?_
    first
    | (have h1 : e = 0 ∧ a ≠ l.length := by omega
       have h2 : ¬ (e = 0 ∧ a = l.length) := by omega
       rw [if_pos h1, if_neg h2]
       exact ⟨rfl, Ch.au⟩)
    | (have h1 : ¬ (e = 0 ∧ a ≠ l.length) := by omega
       rw [if_neg h1]
       refine ⟨?_, Ch.au⟩
       by_cases h2 : e = 0
       · rw [if_pos h2, if_pos ⟨h2, by omega⟩]
       · rw [if_neg h2, if_neg (fun h => h2 h.1)])
   ·
    refine W_skip (W_seq (W_region (L_r (r_mp rfl) ?_)))
    refine L_call (.plain rfl) rfl rfl (r_call Tryz.func99 rfl rfl rfl (by rfl)) (err_walk base b v l a e _ (hR.nw Ch.au)) ?_
    rintro v22 w2 ⟨rfl, c2⟩
    have hz2 := c2.size
    refine L_r (r_ext2_0 rfl) (L_r (r_ext2_1 rfl) (L_r (r_ai rfl) (L_r (r_ai rfl) (L_nil (W_ret ?_)))))
    refine ret2 (u := .int _ _) (v := .int _ _) rfl rfl rfl ?_
    first
    | (have h1 : e = 0 ∧ a ≠ l.length := by omega
       have h2 : ¬ (e = 0 ∧ a = l.length) := by omega
       rw [if_pos h1, if_neg h2]
       exact ⟨rfl, Ch.au⟩)
    | (have h1 : ¬ (e = 0 ∧ a ≠ l.length) := by omega
       rw [if_neg h1]
       refine ⟨?_, Ch.au⟩
       by_cases h2 : e = 0
       · rw [if_pos h2, if_pos ⟨h2, by omega⟩]
       · rw [if_neg h2, if_neg (fun h => h2 h.1)])
  ·
   refine L_ps (L_ps (L_ps (L_r (r_pf rfl rfl) (L_nil ?_))))
   refine W_false rfl (W_skip (W_seq (W_region (L_r (r_mp rfl) ?_))))
   refine L_call (.plain rfl) rfl rfl (r_call Tryz.func99 rfl rfl rfl (by rfl)) (err_walk base b v l a e _ (hR.nw Ch.au)) ?_
   rintro v22 w3 ⟨rfl, c3⟩
   have hz3 := c3.size
   refine L_r (r_ext2_0 rfl) (L_r (r_ext2_1 rfl) (L_r (r_ai rfl) (L_r (r_ai rfl) (L_nil (W_ret ?_)))))
   refine ret2 (u := .int _ _) (v := .int _ _) rfl rfl rfl ?_
   first
   | (have h1 : e = 0 ∧ a ≠ l.length := by omega
      have h2 : ¬ (e = 0 ∧ a = l.length) := by omega
      rw [if_pos h1, if_neg h2]
      exact ⟨rfl, Ch.au⟩)
   | (have h1 : ¬ (e = 0 ∧ a ≠ l.length) := by omega
      rw [if_neg h1]
      refine ⟨?_, Ch.au⟩
      by_cases h2 : e = 0
      · rw [if_pos h2, if_pos ⟨h2, by omega⟩]
      · rw [if_neg h2, if_neg (fun h => h2 h.1)])
theorem read_walk (v : Value) (l : List UInt8) (w0 : World) (hv : Sl w0 v 1 l.length (l.map b8)) (hl : l.length ≤ 100000000) : Does Tryz.prog 33 #[v] w0 (fun r w' => ∃ b v', r = .pointer (some ⟨b, 0, none⟩) ∧ RdAt w0.heap.size w' b v' l 0 0 ∧ Nw w0 w') := by
  refine fn_of (n := 7) (args := [v]) Tryz.func33 rfl rfl rfl (W_seq (W_region (L_r (r_ap rfl) (L_nil (W_seq (W_region (L_r (r_mv) ?_)))))))
  refine L_call (.plain rfl) rfl rfl (r_call Tryz.func86 rfl rfl rfl (by rfl)) (clone_walk v l _ Sl.au hl) ?_
  rintro v4 w1 ⟨v1, rfl, ho1, c1⟩
  have hz1 := c1.size
  obtain ⟨sa, sn, sc, rfl⟩ := ow_form ho1
  refine L_r (r_build1 (pl := [(0, 1), (1, 1), (2, 1)]) (vs := [(0, .slice _ _ _)]) (cells := [_, _, _]) Tryz.underlying106 rfl rfl (by rfl) rfl (by rfl)) ?_
  refine L_new (.plain rfl) rfl rfl (r_boxa rfl) (fun w2 b6 hb6 eb2 hs2 c2 => (L_r (r_ap rfl) (L_nil (W_ret ?_))))
  refine ret1 (v := .pointer _) rfl rfl ?_
  exact ⟨_, _, rfl, ⟨Bk.au, by omega, Ow.au, by omega, hl⟩, Ch.au⟩
end Go.Proofs.YthpknpfhpkkheaaGreatDoor

namespace Go.Proofs.YthpknpfhpkkheaaGreatDoor
open Go Go.RowKit
set_option linter.unusedVariables false
set_option maxRecDepth 100000
set_option linter.unusedSimpArgs false
section
variable {base b : Nat} {v : Value} {l : List UInt8} {a : Nat} {e : Int} {w : World}
end
theorem numL_var (rest : List UInt8) : ∀ (n v i : Nat), v < n → v * 128 ^ i ≤ 18446744073709551615 → i ≤ 9 → (v = 0 → i = 0) → numL i (varL v ++ rest) = (0, v, (varL v).length)
  | 0, v, i, hn, _, _, _ => absurd hn (by omega)
  | n + 1, v, i, hn, h, h9, h0 => by
    have hv9 : i = 9 → v ≤ 1 := by
      intro e; subst e
      have e2 : (128 : Nat) ^ 9 = 9223372036854775808 := by decide
      rw [e2] at h; omega
    by_cases hv : v < 128
    ·
     rw [varL_low hv]
     have ec : (UInt8.ofNat v).toNat = v := by rw [UInt8.toNat_ofNat']; omega
     show numL i (UInt8.ofNat v :: rest) = _
     rw [numL, ec, if_neg (by omega), if_pos hv, if_neg (by omega)]
     rfl
    ·
     rw [varL_high hv]
     have ec : (UInt8.ofNat (v % 128 + 128)).toNat = v % 128 + 128 := by rw [UInt8.toNat_ofNat']; omega
     have hi : i ≠ 9 := fun e => by have := hv9 e; omega
     have h2 : v / 128 * 128 ^ (i + 1) ≤ 18446744073709551615 := by
       rw [Nat.pow_succ, ← Nat.mul_assoc, Nat.mul_right_comm]
       exact Nat.le_trans (Nat.mul_le_mul_right _ (Nat.div_mul_le_self v 128)) h
     have ih := numL_var rest n (v / 128) (i + 1) (by omega) h2 (by omega) (by omega)
     show numL i (UInt8.ofNat (v % 128 + 128) :: (varL (v / 128) ++ rest)) = _
     rw [numL_step i _ _ (by omega) (by omega), ih, ec]
     simp only [List.length_cons]
     congr 2
     omega
theorem numL_v (v : Nat) (rest : List UInt8) (h : v ≤ 18446744073709551615) : numL 0 (varL v ++ rest) = (0, v, (varL v).length) := numL_var rest (v + 1) v 0 (by omega) (by omega) (by omega) (fun _ => rfl)
/-- What reading a text comes to, where it was written. -/
theorem textR_of (s : ByteArray) (rest : List UInt8) (hs : s.size ≤ 100000000) : textR (textL s ++ rest) = if 4096 < s.size then (12, [], 0) else if Lib.validD (bs s) = true then (0, bs s, (textL s).length) else (11, [], 0) := by
  have e : numL 0 (textL s ++ rest) = (0, s.size, (varL s.size).length) := by rw [textL, List.append_assoc]; exact numL_v _ _ (by omega)
  have ed : (textL s ++ rest).drop (varL s.size).length = bs s ++ rest := by rw [textL, List.append_assoc, List.drop_left]
  have et : (bs s ++ rest).take s.size = bs s := by rw [← bs_length, List.take_left]
  have el : (textL s ++ rest).length - (varL s.size).length = s.size + rest.length := by rw [textL, List.length_append, List.length_append, bs_length]; omega
  have el2 : (textL s).length = (varL s.size).length + s.size := by rw [textL, List.length_append, bs_length]
  rw [textR, e]
  simp only [ne_eq, not_true_eq_false, if_false, ed, et, el, el2]
  rw [if_neg (show ¬ s.size + rest.length < s.size by omega)]
theorem RdAt.down {base base' : Nat} {w : World} {b : Nat} {v : Value} {l : List UInt8} {a : Nat} {e : Int} (h : RdAt base w b v l a e) (hb : base' ≤ base) : RdAt base' w b v l a e := ⟨h.bk, Nat.le_trans hb h.hb, Ow.mono h.ow hb, h.ha, h.hl⟩
section
variable {l m rest : List UInt8} {a : Nat}
theorem drop_more (h : l.drop a = m ++ rest) : l.drop (a + m.length) = rest := by
  rw [← List.drop_drop, h, List.drop_left]
end
end Go.Proofs.YthpknpfhpkkheaaGreatDoor

namespace Go.Proofs.YthpknpfhpkkheaaGreatDoor
open Go Go.RowKit
set_option linter.unusedVariables false
set_option maxRecDepth 100000
set_option linter.unusedSimpArgs false
theorem numL_pos : ∀ (l : List UInt8) (i : Nat), 0 < i → (numL i l).1 = 0 → 0 < (numL i l).2.1
  | [], i, _, h => by simp [numL] at h
  | c :: t, i, hi, h => by
    unfold numL at h ⊢
    by_cases h1 : i = 9 ∧ 1 < c.toNat
    · rw [if_pos h1] at h; exact absurd h (by decide)
    ·
     rw [if_neg h1] at h
     rw [if_neg h1]
     by_cases h2 : c.toNat < 128
     ·
      rw [if_pos h2] at h
      rw [if_pos h2]
      by_cases h3 : c.toNat = 0 ∧ 0 < i
      · rw [if_pos h3] at h; exact absurd h (by decide)
      ·
       rw [if_neg h3]
       show 0 < c.toNat
       omega
     ·
      rw [if_neg h2] at h
      rw [if_neg h2]
      have := numL_pos t (i + 1) (by omega) h
      show 0 < c.toNat % 128 + 128 * _
      omega
/-- A number that is read is written so. -/
theorem numL_canon : ∀ (l : List UInt8) (i : Nat), (numL i l).1 = 0 → l = varL (numL i l).2.1 ++ l.drop (numL i l).2.2
  | [], i, h => by simp [numL] at h
  | c :: t, i, h => by
    unfold numL at h ⊢
    by_cases h1 : i = 9 ∧ 1 < c.toNat
    · rw [if_pos h1] at h; exact absurd h (by decide)
    ·
     rw [if_neg h1] at h
     rw [if_neg h1]
     by_cases h2 : c.toNat < 128
     ·
      rw [if_pos h2] at h
      rw [if_pos h2]
      by_cases h3 : c.toNat = 0 ∧ 0 < i
      · rw [if_pos h3] at h; exact absurd h (by decide)
      ·
       rw [if_neg h3]
       show c :: t = varL c.toNat ++ t
       rw [varL_low h2, UInt8.ofNat_toNat]; rfl
     ·
      rw [if_neg h2] at h
      rw [if_neg h2]
      have hp := numL_pos t (i + 1) (by omega) h
      have ih := numL_canon t (i + 1) h
      show c :: t = varL (c.toNat % 128 + 128 * (numL (i + 1) t).2.1) ++ t.drop (numL (i + 1) t).2.2
      rw [varL_high (by omega), show (c.toNat % 128 + 128 * (numL (i + 1) t).2.1) / 128 = (numL (i + 1) t).2.1 by omega, show (c.toNat % 128 + 128 * (numL (i + 1) t).2.1) % 128 + 128 = c.toNat by have := c.toNat_lt; omega, UInt8.ofNat_toNat, List.cons_append, ← ih]
/-- The state behind a number, the number. -/
def ns (l : List UInt8) (st : Nat × Int) : Nat × Int := nxt st (numL 0 (l.drop st.1)).1 (numL 0 (l.drop st.1)).2.2
def nm (l : List UInt8) (st : Nat × Int) : Nat := got st (numL 0 (l.drop st.1)).1 (numL 0 (l.drop st.1)).2.1 0
def ts (l : List UInt8) (st : Nat × Int) : Nat × Int := nxt st (textR (l.drop st.1)).1 (textR (l.drop st.1)).2.2
def tx (l : List UInt8) (st : Nat × Int) : List UInt8 := got st (textR (l.drop st.1)).1 (textR (l.drop st.1)).2.1 []
theorem ns_ok {l : List UInt8} {st : Nat × Int} (h : (ns l st).2 = 0) : st.2 = 0 ∧ l.drop st.1 = varL (nm l st) ++ l.drop (ns l st).1 := by
  obtain ⟨a, e⟩ := st
  by_cases he : e = 0
  ·
   subst he
   by_cases hn : (numL 0 (l.drop a)).1 = 0
   ·
    refine ⟨rfl, ?_⟩
    have hc := numL_canon (l.drop a) 0 hn
    unfold ns nm
    rw [nxt_ok hn, got, if_pos ⟨rfl, hn⟩]
    rw [List.drop_drop] at hc
    exact hc
   ·
    unfold ns at h
    rw [nxt_err hn] at h
    exact absurd h hn
  ·
   unfold ns at h
   rw [nxt_bad he] at h
   exact absurd h he
theorem ns_of {l rest : List UInt8} {a v : Nat} (hv : v ≤ 18446744073709551615) (h : l.drop a = varL v ++ rest) : nm l (a, 0) = v ∧ ns l (a, 0) = (a + (varL v).length, 0) := by
  unfold nm ns
  rw [h, numL_v v rest hv]
  exact ⟨rfl, rfl⟩
theorem nm_le (l : List UInt8) (st : Nat × Int) : nm l st ≤ 18446744073709551615 := by
  unfold nm got
  split
  ·
   have h := numL_lt (l.drop st.1) 0 (by omega)
   have h2 : (numL 0 (l.drop st.1)).2.1 < 18446744073709551616 := h
   omega
  · omega
theorem ts_ok {l : List UInt8} {st : Nat × Int} (h : (ts l st).2 = 0) : st.2 = 0 ∧ l.drop st.1 = textL (sb (tx l st)) ++ l.drop (ts l st).1 := by
  obtain ⟨a, e⟩ := st
  by_cases he : e = 0
  ·
   subst he
   by_cases hn : (textR (l.drop a)).1 = 0
   ·
    refine ⟨rfl, ?_⟩
    unfold ts tx
    rw [nxt_ok hn, got, if_pos ⟨rfl, hn⟩]
    show l.drop a = textL (sb (textR (l.drop a)).2.1) ++ l.drop (a + (textR (l.drop a)).2.2)
    rw [← List.drop_drop]
    generalize l.drop a = m at hn ⊢
    by_cases h0 : (numL 0 m).1 ≠ 0
    · rw [textR_err h0] at hn; exact absurd hn h0
    ·
     by_cases h1 : 4096 < (numL 0 m).2.1
     · rw [textR_big h0 h1] at hn; exact absurd hn (by decide)
     ·
      by_cases h2 : m.length - (numL 0 m).2.2 < (numL 0 m).2.1
      · rw [textR_short h0 h1 h2] at hn; exact absurd hn (by decide)
      ·
       by_cases h3 : Lib.validD ((m.drop (numL 0 m).2.2).take (numL 0 m).2.1) = true
       ·
        rw [textR_good h0 h1 h2 h3]
        have hc := numL_canon m 0 (Classical.not_not.1 h0)
        have hl : ((m.drop (numL 0 m).2.2).take (numL 0 m).2.1).length = (numL 0 m).2.1 := by rw [List.length_take, List.length_drop]; omega
        show m = textL (sb ((m.drop (numL 0 m).2.2).take (numL 0 m).2.1)) ++ m.drop ((numL 0 m).2.2 + (numL 0 m).2.1)
        rw [textL, sb_size, bs_sb, hl, List.append_assoc, ← List.drop_drop, List.take_append_drop]
        exact hc
       · rw [textR_form h0 h1 h2 h3] at hn; exact absurd hn (by decide)
   ·
    unfold ts at h
    rw [nxt_err hn] at h
    exact absurd h hn
  ·
   unfold ts at h
   rw [nxt_bad he] at h
   exact absurd h he
theorem ts_of {l rest : List UInt8} {a : Nat} {s : ByteArray} (hs : s.size ≤ 4096) (hv : Lib.validD (bs s) = true) (h : l.drop a = textL s ++ rest) : tx l (a, 0) = bs s ∧ ts l (a, 0) = (a + (textL s).length, 0) := by
  have e := textR_of s rest (by omega)
  rw [if_neg (by omega), if_pos hv] at e
  unfold tx ts
  rw [h, e]
  exact ⟨rfl, rfl⟩
end Go.Proofs.YthpknpfhpkkheaaGreatDoor

namespace Go.Proofs.YthpknpfhpkkheaaGreatDoor
open Go Go.RowKit
set_option linter.unusedVariables false
set_option maxRecDepth 100000
set_option linter.unusedSimpArgs false
/-- How many bytes a character has, by the document: of n bytes the first four. -/
def charN (n c b1 b2 b3 : Nat) : Nat :=
  if c < 128 then 1
  else if (194 ≤ c ∧ c < 224) ∧ (1 < n ∧ 128 ≤ b1 ∧ b1 < 192) then 2
  else if ((224 ≤ c ∧ c < 240) ∧ (1 < n ∧ 128 ≤ b1 ∧ b1 < 192)) ∧ (2 < n ∧ 128 ≤ b2 ∧ b2 < 192) then
    (if 2048 ≤ c % 16 * 4096 + b1 % 64 * 64 + b2 % 64 ∧ (c % 16 * 4096 + b1 % 64 * 64 + b2 % 64 < 55296 ∨ 57343 < c % 16 * 4096 + b1 % 64 * 64 + b2 % 64) then 3 else 0)
  else if (((240 ≤ c ∧ c < 245) ∧ (1 < n ∧ 128 ≤ b1 ∧ b1 < 192)) ∧ (2 < n ∧ 128 ≤ b2 ∧ b2 < 192)) ∧ (3 < n ∧ 128 ≤ b3 ∧ b3 < 192) then
    (if 65536 ≤ c % 8 * 262144 + b1 % 64 * 4096 + b2 % 64 * 64 + b3 % 64 ∧ c % 8 * 262144 + b1 % 64 * 4096 + b2 % 64 * 64 + b3 % 64 ≤ 1114111 then 4 else 0)
  else 0
section
variable {n c b1 b2 b3 : Nat}
theorem first_is (F : Nat) (h0 : 128 ≤ c) (_ : c < 194 → F = 241) (_ : 194 ≤ c → c < 224 → F = 2) (_ : c = 224 → F = 19) (_ : 224 < c → c < 237 → F = 3) (_ : c = 237 → F = 35) (_ : 237 < c → c < 240 → F = 3) (_ : c = 240 → F = 52) (_ : 240 < c → c < 244 → F = 4) (_ : c = 244 → F = 68) (_ : 244 < c → F = 241) : Lib.firstT c = F := by
  unfold Lib.firstT
  repeat' split
  all_goals omega
abbrev Agr (n c b1 b2 b3 : Nat) : Prop := Lib.checkN n b1 b2 b3 (Lib.firstT c % 8) (Lib.accLo (Lib.firstT c / 16)) (Lib.accHi (Lib.firstT c / 16)) = if charN n c b1 b2 b3 = 0 then none else some (charN n c b1 b2 b3)
theorem agr_fin {F lo hi sz : Nat} (e1 : Lib.firstT c = F) (e2 : F % 8 = sz) (e3 : Lib.accLo (F / 16) = lo) (e4 : Lib.accHi (F / 16) = hi) (h4 : ∀ k, Lib.checkN n b1 b2 b3 sz lo hi = some k → charN n c b1 b2 b3 = k ∧ k ≠ 0) (h5 : Lib.checkN n b1 b2 b3 sz lo hi = none → charN n c b1 b2 b3 = 0) : Agr n c b1 b2 b3 := by
  unfold Agr
  rw [e1, e2, e3, e4]
  cases e : Lib.checkN n b1 b2 b3 sz lo hi with
  | none => rw [if_pos (h5 e)]
  | some k => obtain ⟨h6, h7⟩ := h4 k e; rw [h6, if_neg h7]
theorem agr_bad (h0 : 128 ≤ c) (h1 : c < 194 ∨ 244 < c) : Agr n c b1 b2 b3 := by
  have e1 : Lib.firstT c = 241 := first_is 241 h0 (by omega) (by omega) (by omega) (by omega) (by omega) (by omega) (by omega) (by omega) (by omega) (by omega)
  have e2 : charN n c b1 b2 b3 = 0 := by
    unfold charN
    repeat' split
    all_goals omega
  unfold Agr
  rw [e1, if_pos e2]; rfl
theorem ck2 (lo hi : Nat) : Lib.checkN n b1 b2 b3 2 lo hi = if n < 2 ∨ b1 < lo ∨ hi < b1 then none else some 2 := rfl
theorem ck3 (lo hi : Nat) : Lib.checkN n b1 b2 b3 3 lo hi = if n < 3 ∨ b1 < lo ∨ hi < b1 ∨ b2 < 128 ∨ 191 < b2 then none else some 3 := rfl
theorem ck4 (lo hi : Nat) : Lib.checkN n b1 b2 b3 4 lo hi = if n < 4 ∨ b1 < lo ∨ hi < b1 ∨ b2 < 128 ∨ 191 < b2 ∨ b3 < 128 ∨ 191 < b3 then none else some 4 := rfl
theorem agr_0 (h0 : 194 ≤ c) (h1 : c < 224) : Agr n c b1 b2 b3 := by
  refine agr_fin (lo := 128) (hi := 191) (sz := 2) (first_is 2 (by omega) (by omega) (by omega) (by omega) (by omega) (by omega) (by omega) (by omega) (by omega) (by omega) (by omega)) rfl rfl rfl (fun k hk => ?_) (fun hk => ?_)
  ·
   rw [ck2] at hk
   split at hk
   · cases hk
   ·
    injection hk with hk
    subst hk
    refine ⟨?_, by decide⟩
    unfold charN
    repeat' split
    all_goals omega
  ·
   rw [ck2] at hk
   split at hk
   ·
    unfold charN
    repeat' split
    all_goals omega
   · cases hk
theorem agr_1 (h0 : c = 224) (h1 : c = 224) : Agr n c b1 b2 b3 := by
  refine agr_fin (lo := 160) (hi := 191) (sz := 3) (first_is 19 (by omega) (by omega) (by omega) (by omega) (by omega) (by omega) (by omega) (by omega) (by omega) (by omega) (by omega)) rfl rfl rfl (fun k hk => ?_) (fun hk => ?_)
  ·
   rw [ck3] at hk
   split at hk
   · cases hk
   ·
    injection hk with hk
    subst hk
    refine ⟨?_, by decide⟩
    unfold charN
    repeat' split
    all_goals omega
  ·
   rw [ck3] at hk
   split at hk
   ·
    unfold charN
    repeat' split
    all_goals omega
   · cases hk
theorem agr_2 (h0 : 225 ≤ c) (h1 : c < 237) : Agr n c b1 b2 b3 := by
  refine agr_fin (lo := 128) (hi := 191) (sz := 3) (first_is 3 (by omega) (by omega) (by omega) (by omega) (by omega) (by omega) (by omega) (by omega) (by omega) (by omega) (by omega)) rfl rfl rfl (fun k hk => ?_) (fun hk => ?_)
  ·
   rw [ck3] at hk
   split at hk
   · cases hk
   ·
    injection hk with hk
    subst hk
    refine ⟨?_, by decide⟩
    unfold charN
    repeat' split
    all_goals omega
  ·
   rw [ck3] at hk
   split at hk
   ·
    unfold charN
    repeat' split
    all_goals omega
   · cases hk
theorem agr_3 (h0 : c = 237) (h1 : c = 237) : Agr n c b1 b2 b3 := by
  refine agr_fin (lo := 128) (hi := 159) (sz := 3) (first_is 35 (by omega) (by omega) (by omega) (by omega) (by omega) (by omega) (by omega) (by omega) (by omega) (by omega) (by omega)) rfl rfl rfl (fun k hk => ?_) (fun hk => ?_)
  ·
   rw [ck3] at hk
   split at hk
   · cases hk
   ·
    injection hk with hk
    subst hk
    refine ⟨?_, by decide⟩
    unfold charN
    repeat' split
    all_goals omega
  ·
   rw [ck3] at hk
   split at hk
   ·
    unfold charN
    repeat' split
    all_goals omega
   · cases hk
theorem agr_4 (h0 : 238 ≤ c) (h1 : c < 240) : Agr n c b1 b2 b3 := by
  refine agr_fin (lo := 128) (hi := 191) (sz := 3) (first_is 3 (by omega) (by omega) (by omega) (by omega) (by omega) (by omega) (by omega) (by omega) (by omega) (by omega) (by omega)) rfl rfl rfl (fun k hk => ?_) (fun hk => ?_)
  ·
   rw [ck3] at hk
   split at hk
   · cases hk
   ·
    injection hk with hk
    subst hk
    refine ⟨?_, by decide⟩
    unfold charN
    repeat' split
    all_goals omega
  ·
   rw [ck3] at hk
   split at hk
   ·
    unfold charN
    repeat' split
    all_goals omega
   · cases hk
theorem agr_5 (h0 : c = 240) (h1 : c = 240) : Agr n c b1 b2 b3 := by
  refine agr_fin (lo := 144) (hi := 191) (sz := 4) (first_is 52 (by omega) (by omega) (by omega) (by omega) (by omega) (by omega) (by omega) (by omega) (by omega) (by omega) (by omega)) rfl rfl rfl (fun k hk => ?_) (fun hk => ?_)
  ·
   rw [ck4] at hk
   split at hk
   · cases hk
   ·
    injection hk with hk
    subst hk
    refine ⟨?_, by decide⟩
    unfold charN
    repeat' split
    all_goals omega
  ·
   rw [ck4] at hk
   split at hk
   ·
    unfold charN
    repeat' split
    all_goals omega
   · cases hk
theorem agr_6 (h0 : 241 ≤ c) (h1 : c < 244) : Agr n c b1 b2 b3 := by
  refine agr_fin (lo := 128) (hi := 191) (sz := 4) (first_is 4 (by omega) (by omega) (by omega) (by omega) (by omega) (by omega) (by omega) (by omega) (by omega) (by omega) (by omega)) rfl rfl rfl (fun k hk => ?_) (fun hk => ?_)
  ·
   rw [ck4] at hk
   split at hk
   · cases hk
   ·
    injection hk with hk
    subst hk
    refine ⟨?_, by decide⟩
    unfold charN
    repeat' split
    all_goals omega
  ·
   rw [ck4] at hk
   split at hk
   ·
    unfold charN
    repeat' split
    all_goals omega
   · cases hk
theorem agr_7 (h0 : c = 244) (h1 : c = 244) : Agr n c b1 b2 b3 := by
  refine agr_fin (lo := 128) (hi := 143) (sz := 4) (first_is 68 (by omega) (by omega) (by omega) (by omega) (by omega) (by omega) (by omega) (by omega) (by omega) (by omega) (by omega)) rfl rfl rfl (fun k hk => ?_) (fun hk => ?_)
  ·
   rw [ck4] at hk
   split at hk
   · cases hk
   ·
    injection hk with hk
    subst hk
    refine ⟨?_, by decide⟩
    unfold charN
    repeat' split
    all_goals omega
  ·
   rw [ck4] at hk
   split at hk
   ·
    unfold charN
    repeat' split
    all_goals omega
   · cases hk
theorem char_check (hc : 128 ≤ c) : Agr n c b1 b2 b3 := by
  by_cases a : c < 194 ∨ 244 < c
  · exact agr_bad hc a
  by_cases a0 : c < 224
  · exact agr_0 (by omega) (by omega)
  by_cases a1 : c = 224
  · exact agr_1 (by omega) (by omega)
  by_cases a2 : c < 237
  · exact agr_2 (by omega) (by omega)
  by_cases a3 : c = 237
  · exact agr_3 (by omega) (by omega)
  by_cases a4 : c < 240
  · exact agr_4 (by omega) (by omega)
  by_cases a5 : c = 240
  · exact agr_5 (by omega) (by omega)
  by_cases a6 : c < 244
  · exact agr_6 (by omega) (by omega)
  exact agr_7 (by omega) (by omega)
end
/-- How many bytes a character has, by the document. -/
def charL (l : List UInt8) : Nat := charN l.length (l.getD 0 0).toNat (l.getD 1 0).toNat (l.getD 2 0).toNat (l.getD 3 0).toNat
theorem valid_char (l : List UInt8) (hne : l ≠ []) : Lib.validD l = if charL l = 0 then false else Lib.validD (l.drop (charL l)) := by
  by_cases h0 : 128 ≤ (l.getD 0 0).toNat
  ·
   rw [Lib.validD_lead l hne h0]
   have h := char_check (n := l.length) (b1 := (l.getD 1 0).toNat) (b2 := (l.getD 2 0).toNat) (b3 := (l.getD 3 0).toNat) h0
   unfold Agr at h
   rw [h]
   unfold charL
   split <;> rename_i h1 <;> split at h1 <;> simp_all
  ·
   match l, hne with
   | c :: t, _ =>
     have hc : c.toNat < 128 := by simpa using h0
     have e : charL (c :: t) = 1 := by
       unfold charL charN
       rw [if_pos (by simpa using hc)]
     rw [e, if_neg (by decide), Lib.validD_cons c t hc]; rfl
theorem charL_le (l : List UInt8) (hne : l ≠ []) : charL l ≤ l.length := by
  have := List.length_pos_iff.2 hne
  unfold charL charN
  repeat' split
  all_goals omega
end Go.Proofs.YthpknpfhpkkheaaGreatDoor

namespace Go.Proofs.YthpknpfhpkkheaaGreatDoor
open Go Go.RowKit
set_option linter.unusedVariables false
set_option maxRecDepth 100000
set_option linter.unusedSimpArgs false
theorem after_walk (s : ByteArray) (i : Nat) (w0 : World) : Does Tryz.prog 192 #[.string s, .int .i64 i] w0 (fun r w' => r = .bool (decide (i < s.size ∧ 128 ≤ (bat s i).toNat ∧ (bat s i).toNat < 192)) ∧ w' = w0) := by
  refine fn_of (n := 21) (args := [.string s, .int .i64 i]) Tryz.func192 rfl rfl rfl (W_seq (W_region (L_r (r_ab rfl) (L_nil (W_seq (W_region (L_r (r_mi rfl) (L_r (r_ms rfl) ?_))))))))
  refine L_r (r_lens Tryz.underlying9 rfl) (L_r (r_lss rfl rfl) (L_r (r_mb rfl) ?_))
  refine L_case (d := 9) rfl (fun h9 => ?_) (fun h9 => ?_)
  ·
   refine L_g (r_ms rfl) ?_
   refine L_g (r_mi rfl) ?_
   refine L_g (r_indexs Tryz.underlying9 rfl rfl (by omega) (by omega) (by conv => lhs; (try simp only [Nat.mul_one, Nat.zero_add, Int.toNat_natCast, Int.toNat_zero, Int.reduceToNat, Nat.reduceMul, Nat.reduceAdd]))) ?_
   refine L_g (r_geq rfl rfl) (L_r (r_pt rfl rfl) (L_r (r_mb rfl) ?_))
   refine L_case (d := 15) rfl (fun h15 => ?_) (fun h15 => ?_)
   ·
    refine L_g (r_ms rfl) ?_
    refine L_g (r_mi rfl) ?_
    refine L_g (r_indexs Tryz.underlying9 rfl rfl (by omega) (by omega) (by conv => lhs; (try simp only [Nat.mul_one, Nat.zero_add, Int.toNat_natCast, Int.toNat_zero, Int.reduceToNat, Nat.reduceMul, Nat.reduceAdd]))) ?_
    refine L_g (r_lss rfl rfl) (L_r (r_pt rfl rfl) (L_r (r_ab rfl) (L_nil (W_ret ?_))))
    refine ret1 (v := .bool _) rfl rfl ?_
    first
    | exact ⟨congrArg Value.bool (decide_eq_decide.2 (by omega)), rfl⟩
    | exact ⟨congrArg Value.bool (decide_eq_true (by omega)).symm, rfl⟩
    | exact ⟨congrArg Value.bool (decide_eq_false (by omega)).symm, rfl⟩
   ·
    refine L_ps (L_ps (L_ps (L_ps (L_r (r_pf rfl rfl) (L_r (r_ab rfl) (L_nil (W_ret ?_)))))))
    refine ret1 (v := .bool _) rfl rfl ?_
    first
    | exact ⟨congrArg Value.bool (decide_eq_decide.2 (by omega)), rfl⟩
    | exact ⟨congrArg Value.bool (decide_eq_true (by omega)).symm, rfl⟩
    | exact ⟨congrArg Value.bool (decide_eq_false (by omega)).symm, rfl⟩
  ·
   refine L_ps (L_ps (L_ps (L_ps (L_r (r_pf rfl rfl) (L_r (r_mb rfl) (L_ps (L_ps (L_ps ?_))))))))
   refine L_ps (L_r (r_pf rfl rfl) (L_r (r_ab rfl) (L_nil (W_ret ?_))))
   refine ret1 (v := .bool _) rfl rfl ?_
   first
   | exact ⟨congrArg Value.bool (decide_eq_decide.2 (by omega)), rfl⟩
   | exact ⟨congrArg Value.bool (decide_eq_true (by omega)).symm, rfl⟩
   | exact ⟨congrArg Value.bool (decide_eq_false (by omega)).symm, rfl⟩
set_option maxHeartbeats 1000000 in
theorem char_walk (s : ByteArray) (w0 : World) (h : 0 < s.size) : Does Tryz.prog 189 #[.string s] w0 (fun r w' => r = .int .i64 (charN s.size (bat s 0).toNat (bat s 1).toNat (bat s 2).toNat (bat s 3).toNat : Nat) ∧ Nw w0 w') := by
  refine fn_of (n := 107) (args := [.string s]) Tryz.func189 rfl rfl rfl (W_seq (W_region (L_r (r_ai rfl) (L_nil (W_seq (W_region (L_r (r_ms rfl) ?_)))))))
  refine L_r (r_indexs Tryz.underlying9 rfl rfl (by omega) (by omega) (by conv => lhs; (try simp only [Nat.mul_one, Nat.zero_add, Int.toNat_natCast, Int.toNat_zero, Int.reduceToNat, Nat.reduceMul, Nat.reduceAdd]))) ?_
  refine L_r (r_conv Tryz.underlying5 Tryz.underlying3 rfl (by first | exact wr_i64 (by omega) | rfl)) ?_
  rw [show IntKind.i64.wrap ((bat s 0).toNat : Int) = ((bat s 0).toNat : Int) by rw [IntKind.wrap_i64]; have := (bat s 0).toNat_lt; omega]
  refine L_r (r_ai rfl) (L_nil (W_seq (W_block (W_seq (W_region (L_r (r_mi rfl) (L_r (r_lss rfl rfl) (L_r (r_ab rfl) ?_))))))))
  refine L_nil ?_
  refine W_if rfl (fun h9 => ?_) (fun h9 => ?_)
  ·
   refine W_seq (W_region (L_r (r_ai rfl) (L_nil (W_ret ?_))))
   refine ret1 (v := .int _ _) rfl rfl ?_
   refine ⟨congrArg (fun x : Nat => Value.int .i64 (x : Int)) (?_ : _ = charN _ _ _ _ _), Ch.au⟩
   unfold charN
   repeat' split
   all_goals omega
  ·
   refine W_cutF [0, 3] (fun f W => f 12 = .bool (decide ((194 ≤ (bat s 0).toNat ∧ (bat s 0).toNat < 224) ∧ (1 < s.size ∧ 128 ≤ (bat s 1).toNat ∧ (bat s 1).toNat < 192))) ∧ (W = w0)) ?_ ?_
   ·
    refine W_region (L_r (r_mi rfl) (L_r (r_geq rfl rfl) (L_r (r_mb rfl) ?_)))
    refine L_case (d := 15) rfl (fun h15 => ?_) (fun h15 => ?_)
    ·
     refine L_g (r_mi rfl) ?_
     refine L_g (r_lss rfl rfl) (L_r (r_pt rfl rfl) (L_r (r_mb rfl) ?_))
     refine L_case (d := 19) rfl (fun h19 => ?_) (fun h19 => ?_)
     ·
      refine L_g (r_ms rfl) ?_
      refine L_call (.yes 6 true rfl rfl) rfl rfl (r_call Tryz.func192 rfl rfl rfl (by rfl)) (after_walk s 1 _) ?_
      rintro v21 w1 ⟨rfl, rfl⟩
      refine L_r (r_pt rfl rfl) (L_r (r_ab rfl) (L_nil ?_))
      refine ⟨⟨fx2, fx2, trivial⟩, (dec_b (by first | omega | (rw [decide_eq_true_eq]; omega))), ?_⟩
      rfl
     ·
      refine L_ps (L_ps (L_r (r_pf rfl rfl) (L_r (r_ab rfl) (L_nil ?_))))
      refine ⟨⟨fx2, fx2, trivial⟩, (dec_f (by first | omega | (rw [decide_eq_true_eq]; omega))), ?_⟩
      rfl
    ·
     refine L_ps (L_ps (L_r (r_pf rfl rfl) (L_r (r_mb rfl) (L_ps (L_ps (L_r (r_pf rfl rfl) (L_r (r_ab rfl) (L_nil ?_))))))))
     refine ⟨⟨fx2, fx2, trivial⟩, (dec_f (by first | omega | (rw [decide_eq_true_eq]; omega))), ?_⟩
     rfl
   rintro gcr4 w2 ⟨hf12, hCr4⟩
   refine W_as 12 hf12 rfl ?_
   clear hf12
   subst hCr4
   refine W_if rfl (fun h12 => ?_) (fun h12 => ?_)
   ·
    try (replace h12 := of_decide_eq_true h12)
    refine W_seq (W_region (L_r (r_ai rfl) (L_nil (W_ret ?_))))
    refine ret1 (v := .int _ _) rfl rfl ?_
    refine ⟨congrArg (fun x : Nat => Value.int .i64 (x : Int)) (?_ : _ = charN _ _ _ _ _), Ch.au⟩
    unfold charN
    repeat' split
    all_goals omega
   ·
    try (replace h12 := of_decide_eq_false h12)
    refine W_cutF [0, 3] (fun f W => f 23 = .bool (decide (((224 ≤ (bat s 0).toNat ∧ (bat s 0).toNat < 240) ∧ (1 < s.size ∧ 128 ≤ (bat s 1).toNat ∧ (bat s 1).toNat < 192)) ∧ (2 < s.size ∧ 128 ≤ (bat s 2).toNat ∧ (bat s 2).toNat < 192))) ∧ (W = w2)) ?_ ?_
    ·
     refine W_region (L_r (r_mi rfl) (L_r (r_geq rfl rfl) (L_r (r_mb rfl) ?_)))
     refine L_case (d := 26) rfl (fun h26 => ?_) (fun h26 => ?_)
     ·
      refine L_g (r_mi rfl) ?_
      refine L_g (r_lss rfl rfl) (L_r (r_pt rfl rfl) (L_r (r_mb rfl) ?_))
      refine L_case (d := 30) rfl (fun h30 => ?_) (fun h30 => ?_)
      ·
       refine L_g (r_ms rfl) ?_
       refine L_call (.yes 6 true rfl rfl) rfl rfl (r_call Tryz.func192 rfl rfl rfl (by rfl)) (after_walk s 1 _) ?_
       rintro v32 w3 ⟨rfl, rfl⟩
       refine L_r (r_pt rfl rfl) (L_r (r_mb rfl) ?_)
       refine L_caseb (d := 34) rfl (fun h34 => ?_) (fun h34 => ?_)
       ·
        try (replace h34 := of_decide_eq_true h34)
        refine L_g (r_ms rfl) ?_
        refine L_call (.yes 10 true rfl rfl) rfl rfl (r_call Tryz.func192 rfl rfl rfl (by rfl)) (after_walk s 2 _) ?_
        rintro v36 w4 ⟨rfl, rfl⟩
        refine L_r (r_pt rfl rfl) (L_r (r_ab rfl) (L_nil ?_))
        refine ⟨⟨fx2, fx2, trivial⟩, (dec_b (by first | omega | (rw [decide_eq_true_eq]; omega))), ?_⟩
        rfl
       ·
        try (replace h34 := of_decide_eq_false h34)
        refine L_ps (L_ps (L_r (r_pf rfl rfl) (L_r (r_ab rfl) (L_nil ?_))))
        refine ⟨⟨fx2, fx2, trivial⟩, (dec_f (by first | omega | (rw [decide_eq_true_eq]; omega))), ?_⟩
        rfl
      ·
       refine L_ps (L_ps (L_r (r_pf rfl rfl) (L_r (r_mb rfl) (L_ps (L_ps (L_r (r_pf rfl rfl) (L_r (r_ab rfl) (L_nil ?_))))))))
       refine ⟨⟨fx2, fx2, trivial⟩, (dec_f (by first | omega | (rw [decide_eq_true_eq]; omega))), ?_⟩
       rfl
     ·
      refine L_ps (L_ps (L_r (r_pf rfl rfl) (L_r (r_mb rfl) (L_ps (L_ps (L_r (r_pf rfl rfl) (L_r (r_mb rfl) (L_ps ?_))))))))
      refine L_ps (L_r (r_pf rfl rfl) (L_r (r_ab rfl) (L_nil ?_)))
      refine ⟨⟨fx2, fx2, trivial⟩, (dec_f (by first | omega | (rw [decide_eq_true_eq]; omega))), ?_⟩
      rfl
    rintro gcr6 w5 ⟨hf23, hCr6⟩
    refine W_as 23 hf23 rfl ?_
    clear hf23
    subst hCr6
    refine W_if rfl (fun h23 => ?_) (fun h23 => ?_)
    ·
     try (replace h23 := of_decide_eq_true h23)
     refine W_seq ?_
     refine W_still (by kernel_rfl) (by kernel_rfl) (fun w6 c6 hs6 => ?_)
     refine H_r (r_mi rfl) ?_
     refine H_r (r_remn rfl rfl (by omega) (by omega)) ?_
     refine H_r (r_mul rfl rfl (by first | exact wr_i64 (by omega) | rfl)) ?_
     refine H_r (r_ms rfl) ?_
     refine H_r (r_indexs Tryz.underlying9 rfl rfl (by omega) (by omega) (by conv => lhs; (try simp only [Nat.mul_one, Nat.zero_add, Int.toNat_natCast, Int.toNat_zero, Int.reduceToNat, Nat.reduceMul, Nat.reduceAdd]))) ?_
     refine H_r (r_remn rfl rfl (by omega) (by omega)) ?_
     refine H_r (r_conv Tryz.underlying5 Tryz.underlying3 rfl (by first | exact wr_i64 (by omega) | rfl)) ?_
     refine H_r (r_mul rfl rfl (by first | exact wr_i64 (by omega) | rfl)) ?_
     refine H_r (r_add rfl rfl (by first | exact wr_i64 (by omega) | rfl)) ?_
     refine H_r (r_ms rfl) ?_
     refine H_r (r_indexs Tryz.underlying9 rfl rfl (by omega) (by omega) (by conv => lhs; (try simp only [Nat.mul_one, Nat.zero_add, Int.toNat_natCast, Int.toNat_zero, Int.reduceToNat, Nat.reduceMul, Nat.reduceAdd]))) ?_
     refine H_r (r_remn rfl rfl (by omega) (by omega)) ?_
     refine H_r (r_conv Tryz.underlying5 Tryz.underlying3 rfl (by first | exact wr_i64 (by omega) | rfl)) ?_
     refine H_r (r_add rfl rfl (by first | exact wr_i64 (by omega) | rfl)) ?_
     refine H_r (r_ai rfl) ?_
     refine H_nil (W_seq (W_region (L_r (r_mi rfl) (L_r (r_geq rfl rfl) (L_r (r_mb rfl) ?_)))))
     refine L_case (d := 54) rfl (fun h54 => ?_) (fun h54 => ?_)
     ·
      refine L_g (r_mi rfl) ?_
      refine L_g (r_lss rfl rfl) ?_
      refine L_g (r_mb rfl) ?_
      refine L_case (d := 57) rfl (fun h57 => ?_) (fun h57 => ?_)
      ·
       refine L_ps (L_ps ?_)
       refine L_g (r_pt rfl rfl) (L_r (r_pt rfl rfl) (L_nil ?_))
       refine W_true rfl (W_seq (W_region (L_r (r_ai rfl) (L_nil (W_ret ?_)))))
       refine ret1 (v := .int _ _) rfl rfl ?_
       refine ⟨congrArg (fun x : Nat => Value.int .i64 (x : Int)) (?_ : _ = charN _ _ _ _ _), Ch.au⟩
       unfold charN
       repeat' split
       all_goals omega
      ·
       refine L_g (r_mi rfl) ?_
       refine L_g (r_gtr rfl rfl) ?_
       refine L_g (r_pf rfl rfl) (L_r (r_pt rfl rfl) (L_nil ?_))
       refine W_if rfl (fun h61 => ?_) (fun h61 => ?_)
       ·
        refine W_seq (W_region (L_r (r_ai rfl) (L_nil (W_ret ?_))))
        refine ret1 (v := .int _ _) rfl rfl ?_
        refine ⟨congrArg (fun x : Nat => Value.int .i64 (x : Int)) (?_ : _ = charN _ _ _ _ _), Ch.au⟩
        unfold charN
        repeat' split
        all_goals omega
       ·
        refine W_skip (W_seq (W_region (L_r (r_ai rfl) (L_nil (W_ret ?_)))))
        refine ret1 (v := .int _ _) rfl rfl ?_
        refine ⟨congrArg (fun x : Nat => Value.int .i64 (x : Int)) (?_ : _ = charN _ _ _ _ _), Ch.au⟩
        unfold charN
        repeat' split
        all_goals omega
     ·
      refine L_ps (L_ps (L_ps ?_))
      refine L_pu ?_
      refine L_pu (L_ps (L_r (r_pf rfl rfl) (L_nil ?_)))
      refine W_false rfl (W_skip (W_seq (W_region (L_r (r_ai rfl) (L_nil (W_ret ?_))))))
      refine ret1 (v := .int _ _) rfl rfl ?_
      refine ⟨congrArg (fun x : Nat => Value.int .i64 (x : Int)) (?_ : _ = charN _ _ _ _ _), Ch.au⟩
      unfold charN
      repeat' split
      all_goals omega
    ·
     try (replace h23 := of_decide_eq_false h23)
     refine W_cutF [0, 3] (fun f W => f 62 = .bool (decide ((((240 ≤ (bat s 0).toNat ∧ (bat s 0).toNat < 245) ∧ (1 < s.size ∧ 128 ≤ (bat s 1).toNat ∧ (bat s 1).toNat < 192)) ∧ (2 < s.size ∧ 128 ≤ (bat s 2).toNat ∧ (bat s 2).toNat < 192)) ∧ (3 < s.size ∧ 128 ≤ (bat s 3).toNat ∧ (bat s 3).toNat < 192))) ∧ (W = w5)) ?_ ?_
     ·
      refine W_region (L_r (r_mi rfl) (L_r (r_geq rfl rfl) (L_r (r_mb rfl) ?_)))
      refine L_case (d := 65) rfl (fun h65 => ?_) (fun h65 => ?_)
      ·
       refine L_g (r_mi rfl) ?_
       refine L_g (r_lss rfl rfl) (L_r (r_pt rfl rfl) (L_r (r_mb rfl) ?_))
       refine L_case (d := 69) rfl (fun h69 => ?_) (fun h69 => ?_)
       ·
        refine L_g (r_ms rfl) ?_
        refine L_call (.yes 6 true rfl rfl) rfl rfl (r_call Tryz.func192 rfl rfl rfl (by rfl)) (after_walk s 1 _) ?_
        rintro v71 w7 ⟨rfl, rfl⟩
        refine L_r (r_pt rfl rfl) (L_r (r_mb rfl) ?_)
        refine L_caseb (d := 73) rfl (fun h73 => ?_) (fun h73 => ?_)
        ·
         try (replace h73 := of_decide_eq_true h73)
         refine L_g (r_ms rfl) ?_
         refine L_call (.yes 10 true rfl rfl) rfl rfl (r_call Tryz.func192 rfl rfl rfl (by rfl)) (after_walk s 2 _) ?_
         rintro v75 w8 ⟨rfl, rfl⟩
         refine L_r (r_pt rfl rfl) (L_r (r_mb rfl) ?_)
         refine L_caseb (d := 77) rfl (fun h77 => ?_) (fun h77 => ?_)
         ·
          try (replace h77 := of_decide_eq_true h77)
          refine L_g (r_ms rfl) ?_
          refine L_call (.yes 14 true rfl rfl) rfl rfl (r_call Tryz.func192 rfl rfl rfl (by rfl)) (after_walk s 3 _) ?_
          rintro v79 w9 ⟨rfl, rfl⟩
          refine L_r (r_pt rfl rfl) (L_r (r_ab rfl) (L_nil ?_))
          refine ⟨⟨fx2, fx2, trivial⟩, (dec_b (by first | omega | (rw [decide_eq_true_eq]; omega))), ?_⟩
          rfl
         ·
          try (replace h77 := of_decide_eq_false h77)
          refine L_ps (L_ps (L_r (r_pf rfl rfl) (L_r (r_ab rfl) (L_nil ?_))))
          refine ⟨⟨fx2, fx2, trivial⟩, (dec_f (by first | omega | (rw [decide_eq_true_eq]; omega))), ?_⟩
          rfl
        ·
         try (replace h73 := of_decide_eq_false h73)
         refine L_ps (L_ps (L_r (r_pf rfl rfl) (L_r (r_mb rfl) (L_ps (L_ps (L_r (r_pf rfl rfl) (L_r (r_ab rfl) (L_nil ?_))))))))
         refine ⟨⟨fx2, fx2, trivial⟩, (dec_f (by first | omega | (rw [decide_eq_true_eq]; omega))), ?_⟩
         rfl
       ·
        refine L_ps (L_ps (L_r (r_pf rfl rfl) (L_r (r_mb rfl) (L_ps (L_ps (L_r (r_pf rfl rfl) (L_r (r_mb rfl) (L_ps ?_))))))))
        refine L_ps (L_r (r_pf rfl rfl) (L_r (r_ab rfl) (L_nil ?_)))
        refine ⟨⟨fx2, fx2, trivial⟩, (dec_f (by first | omega | (rw [decide_eq_true_eq]; omega))), ?_⟩
        rfl
      ·
       refine L_ps (L_ps (L_r (r_pf rfl rfl) (L_r (r_mb rfl) (L_ps (L_ps (L_r (r_pf rfl rfl) (L_r (r_mb rfl) (L_ps ?_))))))))
       refine L_ps (L_r (r_pf rfl rfl) (L_r (r_mb rfl) (L_ps (L_ps (L_r (r_pf rfl rfl) (L_r (r_ab rfl) (L_nil ?_)))))))
       refine ⟨⟨fx2, fx2, trivial⟩, (dec_f (by first | omega | (rw [decide_eq_true_eq]; omega))), ?_⟩
       rfl
     rintro gcr10 w10 ⟨hf62, hCr10⟩
     refine W_as 62 hf62 rfl ?_
     clear hf62
     subst hCr10
     refine W_if rfl (fun h62 => ?_) (fun h62 => ?_)
     ·
      try (replace h62 := of_decide_eq_true h62)
      refine W_seq ?_
      refine W_still (by kernel_rfl) (by kernel_rfl) (fun w11 c11 hs11 => ?_)
      refine H_r (r_mi rfl) ?_
      refine H_r (r_remn rfl rfl (by omega) (by omega)) ?_
      refine H_r (r_mul rfl rfl (by first | exact wr_i64 (by omega) | rfl)) ?_
      refine H_r (r_ms rfl) ?_
      refine H_r (r_indexs Tryz.underlying9 rfl rfl (by omega) (by omega) (by conv => lhs; (try simp only [Nat.mul_one, Nat.zero_add, Int.toNat_natCast, Int.toNat_zero, Int.reduceToNat, Nat.reduceMul, Nat.reduceAdd]))) ?_
      refine H_r (r_remn rfl rfl (by omega) (by omega)) ?_
      refine H_r (r_conv Tryz.underlying5 Tryz.underlying3 rfl (by first | exact wr_i64 (by omega) | rfl)) ?_
      refine H_r (r_mul rfl rfl (by first | exact wr_i64 (by omega) | rfl)) ?_
      refine H_r (r_add rfl rfl (by first | exact wr_i64 (by omega) | rfl)) ?_
      refine H_r (r_ms rfl) ?_
      refine H_r (r_indexs Tryz.underlying9 rfl rfl (by omega) (by omega) (by conv => lhs; (try simp only [Nat.mul_one, Nat.zero_add, Int.toNat_natCast, Int.toNat_zero, Int.reduceToNat, Nat.reduceMul, Nat.reduceAdd]))) ?_
      refine H_r (r_remn rfl rfl (by omega) (by omega)) ?_
      refine H_r (r_conv Tryz.underlying5 Tryz.underlying3 rfl (by first | exact wr_i64 (by omega) | rfl)) ?_
      refine H_r (r_mul rfl rfl (by first | exact wr_i64 (by omega) | rfl)) ?_
      refine H_r (r_add rfl rfl (by first | exact wr_i64 (by omega) | rfl)) ?_
      refine H_r (r_ms rfl) ?_
      refine H_r (r_indexs Tryz.underlying9 rfl rfl (by omega) (by omega) (by conv => lhs; (try simp only [Nat.mul_one, Nat.zero_add, Int.toNat_natCast, Int.toNat_zero, Int.reduceToNat, Nat.reduceMul, Nat.reduceAdd]))) ?_
      refine H_r (r_remn rfl rfl (by omega) (by omega)) ?_
      refine H_r (r_conv Tryz.underlying5 Tryz.underlying3 rfl (by first | exact wr_i64 (by omega) | rfl)) ?_
      refine H_r (r_add rfl rfl (by first | exact wr_i64 (by omega) | rfl)) ?_
      refine H_r (r_ai rfl) ?_
      refine H_nil (W_seq (W_region (L_r (r_mi rfl) (L_r (r_geq rfl rfl) (L_r (r_mb rfl) ?_)))))
      refine L_case (d := 103) rfl (fun h103 => ?_) (fun h103 => ?_)
      ·
       refine L_g (r_mi rfl) ?_
       refine L_g (r_leq rfl rfl) (L_r (r_pt rfl rfl) (L_nil ?_))
       refine W_if rfl (fun h106 => ?_) (fun h106 => ?_)
       ·
        refine W_seq (W_region (L_r (r_ai rfl) (L_nil (W_ret ?_))))
        refine ret1 (v := .int _ _) rfl rfl ?_
        refine ⟨congrArg (fun x : Nat => Value.int .i64 (x : Int)) (?_ : _ = charN _ _ _ _ _), Ch.au⟩
        unfold charN
        repeat' split
        all_goals omega
       ·
        refine W_skip (W_seq (W_region (L_r (r_ai rfl) (L_nil (W_ret ?_)))))
        refine ret1 (v := .int _ _) rfl rfl ?_
        refine ⟨congrArg (fun x : Nat => Value.int .i64 (x : Int)) (?_ : _ = charN _ _ _ _ _), Ch.au⟩
        unfold charN
        repeat' split
        all_goals omega
      ·
       refine L_ps (L_ps (L_r (r_pf rfl rfl) (L_nil ?_)))
       refine W_false rfl (W_skip (W_seq (W_region (L_r (r_ai rfl) (L_nil (W_ret ?_))))))
       refine ret1 (v := .int _ _) rfl rfl ?_
       refine ⟨congrArg (fun x : Nat => Value.int .i64 (x : Int)) (?_ : _ = charN _ _ _ _ _), Ch.au⟩
       unfold charN
       repeat' split
       all_goals omega
     ·
      try (replace h62 := of_decide_eq_false h62)
      refine W_skip (W_seq (W_region (L_r (r_ai rfl) (L_nil (W_ret ?_)))))
      refine ret1 (v := .int _ _) rfl rfl ?_
      refine ⟨congrArg (fun x : Nat => Value.int .i64 (x : Int)) (?_ : _ = charN _ _ _ _ _), Ch.au⟩
      unfold charN
      repeat' split
      all_goals omega
theorem char_bs (s : ByteArray) : charN s.size (bat s 0).toNat (bat s 1).toNat (bat s 2).toNat (bat s 3).toNat = charL (bs s) := by unfold charL bat; rw [bs_length]
theorem bs_extract_l (s : ByteArray) (i : Nat) : bs (s.extract i s.size) = (bs s).drop i := by
  simp only [bs, ByteArray.data_extract, Array.toList_extract, List.extract_eq_take_drop, ByteArray.size]
  rw [List.take_of_length_le]
  simp
theorem ba_pos {s : ByteArray} (h : s ≠ { data := #[] }) : 0 < s.size := by
  rcases Nat.eq_zero_or_pos s.size with h0 | h0
  · exact absurd (bs_inj.1 (List.eq_nil_of_length_eq_zero (by rw [bs_length]; exact h0) : bs s = bs { data := #[] })) h
  · exact h0
theorem bs_ne {s : ByteArray} (h : s ≠ { data := #[] }) : bs s ≠ [] := fun e => by have := ba_pos h; rw [← bs_length, e] at this; exact absurd this (by decide)
theorem ba_nil {s : ByteArray} (h : ¬ s ≠ { data := #[] }) : bs s = [] := by rw [Classical.not_not.1 h]; rfl
theorem whole_walk (s : ByteArray) (w0 : World) : Does Tryz.prog 182 #[.string s] w0 (fun r w' => r = .bool (Lib.validD (bs s)) ∧ Nw w0 w') := by
  refine fn_of (n := 13) (args := [.string s]) Tryz.func182 rfl rfl rfl (W_seq (W_region (L_r (r_ab rfl) (L_nil (W_seq (W_block ?_))))))
  refine W_loopF [] (fun mz_ f W => ∃ (u : ByteArray), f 0 = .string u ∧ (Lib.validD (bs u) = Lib.validD (bs s) ∧ Nw w0 W) ∧ mz_ = u.size) ?_ ?_
  ·
   refine ⟨_, s, rfl, ?_, rfl⟩
   exact ⟨rfl, Ch.au⟩
  rintro m0 g0 w1 ⟨u, hf0, hR0, rfl⟩
  refine W_as 0 hf0 rfl ?_
  clear hf0
  obtain ⟨hv, hnw⟩ := hR0
  have hz := hnw.size
  refine W_seq (W_seq (W_region (L_r (r_ms rfl) (L_r (r_neqs rfl rfl) (L_nil ?_)))))
  refine W_if rfl (fun h5 => ?_) (fun h5 => ?_)
  ·
   have hu0 := ba_pos h5
   have hcl := charL_le (bs u) (bs_ne h5)
   rw [bs_length] at hcl
   have hxs := congrArg List.length (bs_extract_l u (charL (bs u)))
   rw [bs_length, List.length_drop, bs_length] at hxs
   refine W_skip (W_block (W_seq (W_region (L_r (r_ms rfl) ?_))))
   refine L_call (.plain rfl) rfl rfl (r_call Tryz.func189 rfl rfl rfl (by rfl)) (char_walk u _ hu0) ?_
   rintro v7 w2 ⟨rfl, c2⟩
   have hz2 := c2.size
   rw [char_bs]
   refine L_r (r_ai rfl) (L_nil (W_seq (W_seq (W_region (L_r (r_mi rfl) (L_r (r_eql rfl rfl) (L_nil ?_)))))))
   refine W_if rfl (fun h9 => ?_) (fun h9 => ?_)
   ·
    refine W_seq (W_region (L_r (r_ab rfl) (L_nil (W_ret ?_))))
    refine ret1 (v := .bool _) rfl rfl ?_
    first
    | exact ⟨congrArg Value.bool (by rw [← hv, valid_char (bs u) (bs_ne h5), if_pos (by omega)]), Ch.au⟩
    | exact ⟨congrArg Value.bool (by rw [← hv, ba_nil h5]; rfl), Ch.au⟩
   ·
    refine W_skip (W_region (L_r (r_ms rfl) (L_r (r_mi rfl) ?_)))
    refine L_r (r_slices_l Tryz.underlying9 rfl rfl (by omega) (by omega)) (L_r (r_as rfl) (L_nil ?_))
    refine ⟨trivial, _, ?_, u.extract (charL (bs u)) u.size, rfl, ?_, rfl⟩
    · omega
    exact ⟨by rw [bs_extract_l, ← hv, valid_char (bs u) (bs_ne h5), if_neg (by omega)], Ch.au⟩
  ·
   refine W_exit ?_
   repeat (first | refine blk_hit ?_ | refine blk_miss rfl ?_)
   refine W_seq (W_region (L_r (r_ab rfl) (L_nil (W_ret ?_))))
   refine ret1 (v := .bool _) rfl rfl ?_
   first
   | exact ⟨congrArg Value.bool (by rw [← hv, valid_char (bs u) (bs_ne h5), if_pos (by omega)]), Ch.au⟩
   | exact ⟨congrArg Value.bool (by rw [← hv, ba_nil h5]; rfl), Ch.au⟩
end Go.Proofs.YthpknpfhpkkheaaGreatDoor
