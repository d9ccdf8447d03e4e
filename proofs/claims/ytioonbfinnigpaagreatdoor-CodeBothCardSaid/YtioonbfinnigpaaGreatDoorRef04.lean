/- The document's operators, walked. -/
import Derived.Test.YtioonbfinnigpaaGreatDoorCode2
namespace Go.Proofs.YtioonbfinnigpaaGreatDoor
open Go Go.RowKit
set_option linter.unusedVariables false
set_option linter.unusedSimpArgs false
set_option maxRecDepth 100000
theorem rops_walk  (w0 : World) : Does Tryz.prog 54 #[] w0 (fun r w' => ∃ v, r = v ∧ Ow w' w0.heap.size 9 1 v 42 nmL ∧ Nw w0 w') := by
  refine fn_of (n := 2) (args := []) Tryz.func54 rfl rfl rfl ?_
  refine W_seq ?_
  refine W_region ?_
  refine L_r (r_av) ?_
  refine L_nil ?_
  refine W_seq ?_
  refine W_region ?_
  refine L_build1o (nmL) Tryz.underlying49 rfl rfl rfl (.plain rfl) rfl (by rfl) (by rfl) (by rfl) (fun v1 w1 ho1 eb1 hs1 c1 => ?_)
  refine L_r (r_av) ?_
  refine L_nil ?_
  refine W_ret ?_
  refine ret1 rfl (by conv => lhs; whnf) ?_
  exact ⟨_, rfl, Ow.of ho1, Ch.au⟩
theorem rnumber_walk (s : ByteArray) (w0 : World) : Does Tryz.prog 23 #[.string s] w0 (fun r w' => r = .int .i64 (opZ s) ∧ Nw w0 w') := by
  obtain ⟨T, hT⟩ : ∃ T, T = opT := ⟨_, rfl⟩
  have hops : ∀ W, Does Tryz.prog 54 #[] W fun r w' => ∃ v, r = v ∧ Ow w' W.heap.size 9 1 v 42 (T.map fun o => Value.string o.1) ∧ Nw W w' := by rw [hT]; exact rops_walk
  have hz : opZ s = zOf (idxF s T 0) := by rw [hT]; rfl
  have hTl : T.length = 42 := by rw [hT]; rfl
  rw [hz]
  clear hT hz
  refine fn_of (n := 19) (args := [.string s]) Tryz.func23 rfl rfl rfl ?_
  refine W_seq ?_
  refine W_region ?_
  refine L_r (r_ai rfl) ?_
  refine L_nil ?_
  refine W_seq ?_
  refine W_region ?_
  refine L_call (.plain rfl) rfl rfl (r_call Tryz.func54 rfl rfl rfl (by rfl)) (hops _) ?_
  rintro v5 w1 ⟨_, rfl, hO, c1⟩
  have hz1 := c1.size
  refine L_r (r_av) ?_
  refine L_nil ?_
  refine W_seq ?_
  refine W_seq ?_
  refine W_region ?_
  refine L_r (r_ai rfl) ?_
  refine L_nil ?_
  refine W_block ?_
  refine W_loopF [0, 3] (fun mz_ f W => ∃ (i : Nat), f 4 = .int .i64 i ∧ (i ≤ 42 ∧ (∀ j (hj : j < T.length), j < i → T[j].1 ≠ s) ∧ Nw w0 W ∧ Ow W w0.heap.size 9 1 v5 42 (T.map fun o => Value.string o.1)) ∧ mz_ = 42 - i) ?_ ?_
  · refine ⟨_, 0, rfl, ?_, rfl⟩
    exact ⟨by omega, fun j hj hji => absurd hji (by omega), Ch.au, hO⟩
  rintro m0 g0 w2 ⟨i, hf4, hR0, rfl⟩
  refine W_as 4 hf4 rfl ?_
  clear hf4
  obtain ⟨hi, hn, hnw, hO2⟩ := hR0
  have hz := hnw.size
  clear hO
  refine W_seq ?_
  refine W_seq ?_
  refine W_region ?_
  refine L_r (r_mi rfl) ?_
  refine L_r (r_mv) ?_
  refine L_r (r_lenSl Tryz.underlying49 (by conv => lhs; whnf) Sl.au) ?_
  refine L_r (r_lss rfl rfl) ?_
  refine L_nil ?_
  refine W_if rfl (fun h9 => ?_) (fun h9 => ?_)
  · have hil : i < T.length := by omega
    have hrow : (T.map fun o => Value.string o.1)[i]? = some (.string T[i].1) := by rw [List.getElem?_map, List.getElem?_eq_getElem hil]; rfl
    refine W_skip ?_
    refine W_seq ?_
    refine W_block ?_
    refine W_seq ?_
    refine W_region ?_
    refine L_r (r_mv) ?_
    refine L_r (r_mi rfl) ?_
    refine L_r (r_ix Tryz.underlying49 (show _ = some 1 from rfl) (by conv => lhs; whnf) rfl Sl.au) ?_
    refine L_r (r_loadSl rfl rfl Sl.au (by exact hrow)) ?_
    refine L_r (r_ms rfl) ?_
    refine L_r (r_eqls rfl rfl) ?_
    refine L_nil ?_
    refine W_if rfl (fun h17 => ?_) (fun h17 => ?_)
    · refine W_seq ?_
      refine W_region ?_
      refine L_r (r_mi rfl) ?_
      refine L_r (r_ai rfl) ?_
      refine L_nil ?_
      refine W_ret ?_
      refine ret1 (v := .int _ _) rfl rfl ?_
      refine ⟨?_, Ch.au⟩
      first
      | (have := idxF_at (s := s) T 0 i hil h17 hn
         rw [this, Nat.zero_add]; rfl)
      | (rw [idxF_no T 0 fun j hj => hn j hj (by omega)]; rfl)
    · refine W_skip ?_
      refine W_region ?_
      refine L_r (r_mi rfl) ?_
      refine L_r (r_add rfl rfl (by first | exact wr_i64 (by omega) | rfl)) ?_
      refine L_r (r_ai rfl) ?_
      refine L_nil ?_
      refine ⟨⟨fx2, fx2, trivial⟩, _, ?_, i + 1, rfl, ?_, rfl⟩
      · omega
      refine ⟨by omega, fun j hj hji => ?_, Ch.au, Ow.au⟩
      rcases Nat.lt_or_ge j i with h | h
      · exact hn j hj h
      · have e : j = i := by omega
        subst e
        exact h17
  · refine W_exit ?_
    repeat (first | refine blk_hit ?_ | refine blk_miss rfl ?_)
    refine W_seq ?_
    refine W_region ?_
    refine L_r (r_ai rfl) ?_
    refine L_nil ?_
    refine W_ret ?_
    refine ret1 (v := .int _ _) rfl rfl ?_
    refine ⟨?_, Ch.au⟩
    first
    | (have := idxF_at (s := s) T 0 i hil h17 hn
       rw [this, Nat.zero_add]; rfl)
    | (rw [idxF_no T 0 fun j hj => hn j hj (by omega)]; rfl)
/-- What the document says that an operator has. -/
def rtI (t : Bool × Bool × Bool) : Int := if t.2.2 = false then -1 else if t.1 = true then 1 else if t.2.1 = true then 2 else 0
abbrev numOps : List ByteArray := [{ data := #[105, 110, 116] }, { data := #[108, 111, 97, 100] }, { data := #[115, 116, 111, 114, 101] }, { data := #[106, 117, 109, 112] }, { data := #[98, 114, 97, 110, 99, 104] }]
abbrev txtOps : List ByteArray := [{ data := #[119, 111, 114, 100] }, { data := #[110, 101, 119] }, { data := #[103, 101, 116] }, { data := #[112, 117, 116] }, { data := #[99, 97, 108, 108] }, { data := #[97, 114, 114, 97, 121] }, { data := #[105, 115] }, { data := #[99, 97, 115, 116] }]
theorem num_opsB : ((List.range 42).all fun k => !(opT.getD k default).2.1 || numOps.any fun y => decide (y = (opT.getD k default).1)) = true := by decide +kernel
theorem num_ops (k : Nat) (hk : k < 42) (h : (opT.getD k default).2.1 = true) : (opT.getD k default).1 ∈ numOps := by
  have := List.all_eq_true.1 num_opsB k (List.mem_range.2 hk)
  rw [h, Bool.not_true, Bool.false_or] at this
  obtain ⟨y, hy, he⟩ := List.any_eq_true.1 this
  rw [← of_decide_eq_true he]; exact hy
theorem txt_opsB : ((List.range 42).all fun k => !(opT.getD k default).2.2 || txtOps.any fun y => decide (y = (opT.getD k default).1)) = true := by decide +kernel
theorem txt_ops (k : Nat) (hk : k < 42) (h : (opT.getD k default).2.2 = true) : (opT.getD k default).1 ∈ txtOps := by
  have := List.all_eq_true.1 txt_opsB k (List.mem_range.2 hk)
  rw [h, Bool.not_true, Bool.false_or] at this
  obtain ⟨y, hy, he⟩ := List.any_eq_true.1 this
  rw [← of_decide_eq_true he]; exact hy
theorem num_takes : ∀ s ∈ numOps, rtI (takesF s) = 1 := by decide +kernel
theorem txt_takes : ∀ s ∈ txtOps, rtI (takesF s) = 2 := by decide +kernel
theorem rt_none {s : ByteArray} (h : opZ s < 0) : rtI (takesF s) = -1 := by
  unfold opZ at h
  unfold takesF
  cases hk : opIx s with
  | none => rfl
  | some k => rw [hk] at h; have : (k : Int) < 0 := h; omega
theorem rt_zero {s : ByteArray} (h : ¬ opZ s < 0) (h1 : ¬ s ∈ numOps) (h2 : ¬ s ∈ txtOps) : rtI (takesF s) = 0 := by
  unfold opZ at h
  unfold takesF
  cases hk : opIx s with
  | none => rw [hk] at h; exact absurd (by decide) h
  | some k =>
    have hk42 := opIx_lt hk
    obtain ⟨hkl, hks⟩ := opIx_some hk
    have e : (opT.getD k default).1 = s := by rw [List.getD_eq_getElem?_getD, List.getElem?_eq_getElem hkl]; exact hks
    have e1 : (opT.getD k default).2.1 = false := by
      cases hh : (opT.getD k default).2.1 with
      | false => rfl
      | true => exact absurd (e ▸ num_ops k hk42 hh) h1
    have e2 : (opT.getD k default).2.2 = false := by
      cases hh : (opT.getD k default).2.2 with
      | false => rfl
      | true => exact absurd (e ▸ txt_ops k hk42 hh) h2
    simp only [e1, e2]; rfl
theorem rtakes_walk (s : ByteArray) (w0 : World) : Does Tryz.prog 24 #[.string s] w0 (fun r w' => r = .int .i64 (rtI (takesF s)) ∧ Nw w0 w') := by
  refine fn_of (n := 22) (args := [.string s]) Tryz.func24 rfl rfl rfl ?_
  refine W_seq ?_
  refine W_region ?_
  refine L_r (r_ai rfl) ?_
  refine L_nil ?_
  refine W_seq ?_
  refine W_seq ?_
  refine W_region ?_
  refine L_r (r_ms rfl) ?_
  refine L_nil ?_
  refine W_block ?_
  refine W_seq ?_
  refine W_seq ?_
  refine W_region ?_
  refine L_r (r_eqls rfl rfl) ?_
  refine L_r (r_ab rfl) ?_
  refine L_nil ?_
  refine W_if rfl (fun h4 => ?_) (fun h4 => ?_)
  · refine W_skip ?_
    refine W_if rfl (fun h4 => ?_) (fun h4 => ?_)
    · refine W_seq ?_
      refine W_region ?_
      refine L_r (r_ai rfl) ?_
      refine L_nil ?_
      refine W_ret ?_
      refine ret1 (v := .int _ _) rfl rfl ?_
      refine ⟨?_, Ch.au⟩
      first
      | contradiction
      | exact congrArg (Value.int .i64) (num_takes s (by simp_all)).symm
      | exact congrArg (Value.int .i64) (txt_takes s (by simp_all)).symm
      | exact congrArg (Value.int .i64) (rt_none (by assumption)).symm
      | exact congrArg (Value.int .i64) (rt_zero (by assumption) (by simp_all) (by simp_all)).symm
    · refine W_seq ?_
      refine W_seq ?_
      refine W_region ?_
      refine L_r (r_eqls rfl rfl) ?_
      refine L_r (r_ab rfl) ?_
      refine L_nil ?_
      refine W_if rfl (fun h10 => ?_) (fun h10 => ?_)
      · refine W_skip ?_
        refine W_if rfl (fun h10 => ?_) (fun h10 => ?_)
        · refine W_seq ?_
          refine W_region ?_
          refine L_r (r_ai rfl) ?_
          refine L_nil ?_
          refine W_ret ?_
          refine ret1 (v := .int _ _) rfl rfl ?_
          refine ⟨?_, Ch.au⟩
          first
          | contradiction
          | exact congrArg (Value.int .i64) (num_takes s (by simp_all)).symm
          | exact congrArg (Value.int .i64) (txt_takes s (by simp_all)).symm
          | exact congrArg (Value.int .i64) (rt_none (by assumption)).symm
          | exact congrArg (Value.int .i64) (rt_zero (by assumption) (by simp_all) (by simp_all)).symm
        · refine W_skip ?_
          refine W_seq ?_
          refine W_seq ?_
          refine W_region ?_
          refine L_r (r_ms rfl) ?_
          refine L_call (.plain rfl) rfl rfl (r_call Tryz.func23 rfl rfl rfl (by rfl)) (rnumber_walk s _) ?_
          rintro v20 w1 ⟨rfl, c1⟩
          have hz1 := c1.size
          refine L_r (r_lss rfl rfl) ?_
          refine L_nil ?_
          refine W_if rfl (fun h21 => ?_) (fun h21 => ?_)
          · refine W_seq ?_
            refine W_region ?_
            refine L_r (r_ai rfl) ?_
            refine L_nil ?_
            refine W_ret ?_
            refine ret1 (v := .int _ _) rfl rfl ?_
            refine ⟨?_, Ch.au⟩
            first
            | contradiction
            | exact congrArg (Value.int .i64) (num_takes s (by simp_all)).symm
            | exact congrArg (Value.int .i64) (txt_takes s (by simp_all)).symm
            | exact congrArg (Value.int .i64) (rt_none (by assumption)).symm
            | exact congrArg (Value.int .i64) (rt_zero (by assumption) (by simp_all) (by simp_all)).symm
          · refine W_skip ?_
            refine W_seq ?_
            refine W_region ?_
            refine L_r (r_ai rfl) ?_
            refine L_nil ?_
            refine W_ret ?_
            refine ret1 (v := .int _ _) rfl rfl ?_
            refine ⟨?_, Ch.au⟩
            first
            | contradiction
            | exact congrArg (Value.int .i64) (num_takes s (by simp_all)).symm
            | exact congrArg (Value.int .i64) (txt_takes s (by simp_all)).symm
            | exact congrArg (Value.int .i64) (rt_none (by assumption)).symm
            | exact congrArg (Value.int .i64) (rt_zero (by assumption) (by simp_all) (by simp_all)).symm
      · refine W_seq ?_
        refine W_region ?_
        refine L_r (r_eqls rfl rfl) ?_
        refine L_r (r_ab rfl) ?_
        refine L_nil ?_
        refine W_if rfl (fun h10 => ?_) (fun h10 => ?_)
        · refine W_skip ?_
          refine W_if rfl (fun h10 => ?_) (fun h10 => ?_)
          · refine W_seq ?_
            refine W_region ?_
            refine L_r (r_ai rfl) ?_
            refine L_nil ?_
            refine W_ret ?_
            refine ret1 (v := .int _ _) rfl rfl ?_
            refine ⟨?_, Ch.au⟩
            first
            | contradiction
            | exact congrArg (Value.int .i64) (num_takes s (by simp_all)).symm
            | exact congrArg (Value.int .i64) (txt_takes s (by simp_all)).symm
            | exact congrArg (Value.int .i64) (rt_none (by assumption)).symm
            | exact congrArg (Value.int .i64) (rt_zero (by assumption) (by simp_all) (by simp_all)).symm
          · refine W_skip ?_
            refine W_seq ?_
            refine W_seq ?_
            refine W_region ?_
            refine L_r (r_ms rfl) ?_
            refine L_call (.plain rfl) rfl rfl (r_call Tryz.func23 rfl rfl rfl (by rfl)) (rnumber_walk s _) ?_
            rintro v20 w2 ⟨rfl, c2⟩
            have hz2 := c2.size
            refine L_r (r_lss rfl rfl) ?_
            refine L_nil ?_
            refine W_if rfl (fun h21 => ?_) (fun h21 => ?_)
            · refine W_seq ?_
              refine W_region ?_
              refine L_r (r_ai rfl) ?_
              refine L_nil ?_
              refine W_ret ?_
              refine ret1 (v := .int _ _) rfl rfl ?_
              refine ⟨?_, Ch.au⟩
              first
              | contradiction
              | exact congrArg (Value.int .i64) (num_takes s (by simp_all)).symm
              | exact congrArg (Value.int .i64) (txt_takes s (by simp_all)).symm
              | exact congrArg (Value.int .i64) (rt_none (by assumption)).symm
              | exact congrArg (Value.int .i64) (rt_zero (by assumption) (by simp_all) (by simp_all)).symm
            · refine W_skip ?_
              refine W_seq ?_
              refine W_region ?_
              refine L_r (r_ai rfl) ?_
              refine L_nil ?_
              refine W_ret ?_
              refine ret1 (v := .int _ _) rfl rfl ?_
              refine ⟨?_, Ch.au⟩
              first
              | contradiction
              | exact congrArg (Value.int .i64) (num_takes s (by simp_all)).symm
              | exact congrArg (Value.int .i64) (txt_takes s (by simp_all)).symm
              | exact congrArg (Value.int .i64) (rt_none (by assumption)).symm
              | exact congrArg (Value.int .i64) (rt_zero (by assumption) (by simp_all) (by simp_all)).symm
        · refine W_seq ?_
          refine W_region ?_
          refine L_r (r_eqls rfl rfl) ?_
          refine L_r (r_ab rfl) ?_
          refine L_nil ?_
          refine W_if rfl (fun h10 => ?_) (fun h10 => ?_)
          · refine W_skip ?_
            refine W_if rfl (fun h10 => ?_) (fun h10 => ?_)
            · refine W_seq ?_
              refine W_region ?_
              refine L_r (r_ai rfl) ?_
              refine L_nil ?_
              refine W_ret ?_
              refine ret1 (v := .int _ _) rfl rfl ?_
              refine ⟨?_, Ch.au⟩
              first
              | contradiction
              | exact congrArg (Value.int .i64) (num_takes s (by simp_all)).symm
              | exact congrArg (Value.int .i64) (txt_takes s (by simp_all)).symm
              | exact congrArg (Value.int .i64) (rt_none (by assumption)).symm
              | exact congrArg (Value.int .i64) (rt_zero (by assumption) (by simp_all) (by simp_all)).symm
            · refine W_skip ?_
              refine W_seq ?_
              refine W_seq ?_
              refine W_region ?_
              refine L_r (r_ms rfl) ?_
              refine L_call (.plain rfl) rfl rfl (r_call Tryz.func23 rfl rfl rfl (by rfl)) (rnumber_walk s _) ?_
              rintro v20 w3 ⟨rfl, c3⟩
              have hz3 := c3.size
              refine L_r (r_lss rfl rfl) ?_
              refine L_nil ?_
              refine W_if rfl (fun h21 => ?_) (fun h21 => ?_)
              · refine W_seq ?_
                refine W_region ?_
                refine L_r (r_ai rfl) ?_
                refine L_nil ?_
                refine W_ret ?_
                refine ret1 (v := .int _ _) rfl rfl ?_
                refine ⟨?_, Ch.au⟩
                first
                | contradiction
                | exact congrArg (Value.int .i64) (num_takes s (by simp_all)).symm
                | exact congrArg (Value.int .i64) (txt_takes s (by simp_all)).symm
                | exact congrArg (Value.int .i64) (rt_none (by assumption)).symm
                | exact congrArg (Value.int .i64) (rt_zero (by assumption) (by simp_all) (by simp_all)).symm
              · refine W_skip ?_
                refine W_seq ?_
                refine W_region ?_
                refine L_r (r_ai rfl) ?_
                refine L_nil ?_
                refine W_ret ?_
                refine ret1 (v := .int _ _) rfl rfl ?_
                refine ⟨?_, Ch.au⟩
                first
                | contradiction
                | exact congrArg (Value.int .i64) (num_takes s (by simp_all)).symm
                | exact congrArg (Value.int .i64) (txt_takes s (by simp_all)).symm
                | exact congrArg (Value.int .i64) (rt_none (by assumption)).symm
                | exact congrArg (Value.int .i64) (rt_zero (by assumption) (by simp_all) (by simp_all)).symm
          · refine W_seq ?_
            refine W_region ?_
            refine L_r (r_eqls rfl rfl) ?_
            refine L_r (r_ab rfl) ?_
            refine L_nil ?_
            refine W_if rfl (fun h10 => ?_) (fun h10 => ?_)
            · refine W_skip ?_
              refine W_if rfl (fun h10 => ?_) (fun h10 => ?_)
              · refine W_seq ?_
                refine W_region ?_
                refine L_r (r_ai rfl) ?_
                refine L_nil ?_
                refine W_ret ?_
                refine ret1 (v := .int _ _) rfl rfl ?_
                refine ⟨?_, Ch.au⟩
                first
                | contradiction
                | exact congrArg (Value.int .i64) (num_takes s (by simp_all)).symm
                | exact congrArg (Value.int .i64) (txt_takes s (by simp_all)).symm
                | exact congrArg (Value.int .i64) (rt_none (by assumption)).symm
                | exact congrArg (Value.int .i64) (rt_zero (by assumption) (by simp_all) (by simp_all)).symm
              · refine W_skip ?_
                refine W_seq ?_
                refine W_seq ?_
                refine W_region ?_
                refine L_r (r_ms rfl) ?_
                refine L_call (.plain rfl) rfl rfl (r_call Tryz.func23 rfl rfl rfl (by rfl)) (rnumber_walk s _) ?_
                rintro v20 w4 ⟨rfl, c4⟩
                have hz4 := c4.size
                refine L_r (r_lss rfl rfl) ?_
                refine L_nil ?_
                refine W_if rfl (fun h21 => ?_) (fun h21 => ?_)
                · refine W_seq ?_
                  refine W_region ?_
                  refine L_r (r_ai rfl) ?_
                  refine L_nil ?_
                  refine W_ret ?_
                  refine ret1 (v := .int _ _) rfl rfl ?_
                  refine ⟨?_, Ch.au⟩
                  first
                  | contradiction
                  | exact congrArg (Value.int .i64) (num_takes s (by simp_all)).symm
                  | exact congrArg (Value.int .i64) (txt_takes s (by simp_all)).symm
                  | exact congrArg (Value.int .i64) (rt_none (by assumption)).symm
                  | exact congrArg (Value.int .i64) (rt_zero (by assumption) (by simp_all) (by simp_all)).symm
                · refine W_skip ?_
                  refine W_seq ?_
                  refine W_region ?_
                  refine L_r (r_ai rfl) ?_
                  refine L_nil ?_
                  refine W_ret ?_
                  refine ret1 (v := .int _ _) rfl rfl ?_
                  refine ⟨?_, Ch.au⟩
                  first
                  | contradiction
                  | exact congrArg (Value.int .i64) (num_takes s (by simp_all)).symm
                  | exact congrArg (Value.int .i64) (txt_takes s (by simp_all)).symm
                  | exact congrArg (Value.int .i64) (rt_none (by assumption)).symm
                  | exact congrArg (Value.int .i64) (rt_zero (by assumption) (by simp_all) (by simp_all)).symm
            · refine W_seq ?_
              refine W_region ?_
              refine L_r (r_eqls rfl rfl) ?_
              refine L_r (r_ab rfl) ?_
              refine L_nil ?_
              refine W_if rfl (fun h10 => ?_) (fun h10 => ?_)
              · refine W_skip ?_
                refine W_if rfl (fun h10 => ?_) (fun h10 => ?_)
                · refine W_seq ?_
                  refine W_region ?_
                  refine L_r (r_ai rfl) ?_
                  refine L_nil ?_
                  refine W_ret ?_
                  refine ret1 (v := .int _ _) rfl rfl ?_
                  refine ⟨?_, Ch.au⟩
                  first
                  | contradiction
                  | exact congrArg (Value.int .i64) (num_takes s (by simp_all)).symm
                  | exact congrArg (Value.int .i64) (txt_takes s (by simp_all)).symm
                  | exact congrArg (Value.int .i64) (rt_none (by assumption)).symm
                  | exact congrArg (Value.int .i64) (rt_zero (by assumption) (by simp_all) (by simp_all)).symm
                · refine W_skip ?_
                  refine W_seq ?_
                  refine W_seq ?_
                  refine W_region ?_
                  refine L_r (r_ms rfl) ?_
                  refine L_call (.plain rfl) rfl rfl (r_call Tryz.func23 rfl rfl rfl (by rfl)) (rnumber_walk s _) ?_
                  rintro v20 w5 ⟨rfl, c5⟩
                  have hz5 := c5.size
                  refine L_r (r_lss rfl rfl) ?_
                  refine L_nil ?_
                  refine W_if rfl (fun h21 => ?_) (fun h21 => ?_)
                  · refine W_seq ?_
                    refine W_region ?_
                    refine L_r (r_ai rfl) ?_
                    refine L_nil ?_
                    refine W_ret ?_
                    refine ret1 (v := .int _ _) rfl rfl ?_
                    refine ⟨?_, Ch.au⟩
                    first
                    | contradiction
                    | exact congrArg (Value.int .i64) (num_takes s (by simp_all)).symm
                    | exact congrArg (Value.int .i64) (txt_takes s (by simp_all)).symm
                    | exact congrArg (Value.int .i64) (rt_none (by assumption)).symm
                    | exact congrArg (Value.int .i64) (rt_zero (by assumption) (by simp_all) (by simp_all)).symm
                  · refine W_skip ?_
                    refine W_seq ?_
                    refine W_region ?_
                    refine L_r (r_ai rfl) ?_
                    refine L_nil ?_
                    refine W_ret ?_
                    refine ret1 (v := .int _ _) rfl rfl ?_
                    refine ⟨?_, Ch.au⟩
                    first
                    | contradiction
                    | exact congrArg (Value.int .i64) (num_takes s (by simp_all)).symm
                    | exact congrArg (Value.int .i64) (txt_takes s (by simp_all)).symm
                    | exact congrArg (Value.int .i64) (rt_none (by assumption)).symm
                    | exact congrArg (Value.int .i64) (rt_zero (by assumption) (by simp_all) (by simp_all)).symm
              · refine W_seq ?_
                refine W_region ?_
                refine L_r (r_eqls rfl rfl) ?_
                refine L_r (r_ab rfl) ?_
                refine L_nil ?_
                refine W_if rfl (fun h10 => ?_) (fun h10 => ?_)
                · refine W_skip ?_
                  refine W_if rfl (fun h10 => ?_) (fun h10 => ?_)
                  · refine W_seq ?_
                    refine W_region ?_
                    refine L_r (r_ai rfl) ?_
                    refine L_nil ?_
                    refine W_ret ?_
                    refine ret1 (v := .int _ _) rfl rfl ?_
                    refine ⟨?_, Ch.au⟩
                    first
                    | contradiction
                    | exact congrArg (Value.int .i64) (num_takes s (by simp_all)).symm
                    | exact congrArg (Value.int .i64) (txt_takes s (by simp_all)).symm
                    | exact congrArg (Value.int .i64) (rt_none (by assumption)).symm
                    | exact congrArg (Value.int .i64) (rt_zero (by assumption) (by simp_all) (by simp_all)).symm
                  · refine W_skip ?_
                    refine W_seq ?_
                    refine W_seq ?_
                    refine W_region ?_
                    refine L_r (r_ms rfl) ?_
                    refine L_call (.plain rfl) rfl rfl (r_call Tryz.func23 rfl rfl rfl (by rfl)) (rnumber_walk s _) ?_
                    rintro v20 w6 ⟨rfl, c6⟩
                    have hz6 := c6.size
                    refine L_r (r_lss rfl rfl) ?_
                    refine L_nil ?_
                    refine W_if rfl (fun h21 => ?_) (fun h21 => ?_)
                    · refine W_seq ?_
                      refine W_region ?_
                      refine L_r (r_ai rfl) ?_
                      refine L_nil ?_
                      refine W_ret ?_
                      refine ret1 (v := .int _ _) rfl rfl ?_
                      refine ⟨?_, Ch.au⟩
                      first
                      | contradiction
                      | exact congrArg (Value.int .i64) (num_takes s (by simp_all)).symm
                      | exact congrArg (Value.int .i64) (txt_takes s (by simp_all)).symm
                      | exact congrArg (Value.int .i64) (rt_none (by assumption)).symm
                      | exact congrArg (Value.int .i64) (rt_zero (by assumption) (by simp_all) (by simp_all)).symm
                    · refine W_skip ?_
                      refine W_seq ?_
                      refine W_region ?_
                      refine L_r (r_ai rfl) ?_
                      refine L_nil ?_
                      refine W_ret ?_
                      refine ret1 (v := .int _ _) rfl rfl ?_
                      refine ⟨?_, Ch.au⟩
                      first
                      | contradiction
                      | exact congrArg (Value.int .i64) (num_takes s (by simp_all)).symm
                      | exact congrArg (Value.int .i64) (txt_takes s (by simp_all)).symm
                      | exact congrArg (Value.int .i64) (rt_none (by assumption)).symm
                      | exact congrArg (Value.int .i64) (rt_zero (by assumption) (by simp_all) (by simp_all)).symm
                · refine W_seq ?_
                  refine W_region ?_
                  refine L_r (r_eqls rfl rfl) ?_
                  refine L_r (r_ab rfl) ?_
                  refine L_nil ?_
                  refine W_if rfl (fun h10 => ?_) (fun h10 => ?_)
                  · refine W_skip ?_
                    refine W_if rfl (fun h10 => ?_) (fun h10 => ?_)
                    · refine W_seq ?_
                      refine W_region ?_
                      refine L_r (r_ai rfl) ?_
                      refine L_nil ?_
                      refine W_ret ?_
                      refine ret1 (v := .int _ _) rfl rfl ?_
                      refine ⟨?_, Ch.au⟩
                      first
                      | contradiction
                      | exact congrArg (Value.int .i64) (num_takes s (by simp_all)).symm
                      | exact congrArg (Value.int .i64) (txt_takes s (by simp_all)).symm
                      | exact congrArg (Value.int .i64) (rt_none (by assumption)).symm
                      | exact congrArg (Value.int .i64) (rt_zero (by assumption) (by simp_all) (by simp_all)).symm
                    · refine W_skip ?_
                      refine W_seq ?_
                      refine W_seq ?_
                      refine W_region ?_
                      refine L_r (r_ms rfl) ?_
                      refine L_call (.plain rfl) rfl rfl (r_call Tryz.func23 rfl rfl rfl (by rfl)) (rnumber_walk s _) ?_
                      rintro v20 w7 ⟨rfl, c7⟩
                      have hz7 := c7.size
                      refine L_r (r_lss rfl rfl) ?_
                      refine L_nil ?_
                      refine W_if rfl (fun h21 => ?_) (fun h21 => ?_)
                      · refine W_seq ?_
                        refine W_region ?_
                        refine L_r (r_ai rfl) ?_
                        refine L_nil ?_
                        refine W_ret ?_
                        refine ret1 (v := .int _ _) rfl rfl ?_
                        refine ⟨?_, Ch.au⟩
                        first
                        | contradiction
                        | exact congrArg (Value.int .i64) (num_takes s (by simp_all)).symm
                        | exact congrArg (Value.int .i64) (txt_takes s (by simp_all)).symm
                        | exact congrArg (Value.int .i64) (rt_none (by assumption)).symm
                        | exact congrArg (Value.int .i64) (rt_zero (by assumption) (by simp_all) (by simp_all)).symm
                      · refine W_skip ?_
                        refine W_seq ?_
                        refine W_region ?_
                        refine L_r (r_ai rfl) ?_
                        refine L_nil ?_
                        refine W_ret ?_
                        refine ret1 (v := .int _ _) rfl rfl ?_
                        refine ⟨?_, Ch.au⟩
                        first
                        | contradiction
                        | exact congrArg (Value.int .i64) (num_takes s (by simp_all)).symm
                        | exact congrArg (Value.int .i64) (txt_takes s (by simp_all)).symm
                        | exact congrArg (Value.int .i64) (rt_none (by assumption)).symm
                        | exact congrArg (Value.int .i64) (rt_zero (by assumption) (by simp_all) (by simp_all)).symm
                  · refine W_region ?_
                    refine L_r (r_eqls rfl rfl) ?_
                    refine L_r (r_ab rfl) ?_
                    refine L_nil ?_
                    refine W_if rfl (fun h10 => ?_) (fun h10 => ?_)
                    · refine W_seq ?_
                      refine W_region ?_
                      refine L_r (r_ai rfl) ?_
                      refine L_nil ?_
                      refine W_ret ?_
                      refine ret1 (v := .int _ _) rfl rfl ?_
                      refine ⟨?_, Ch.au⟩
                      first
                      | contradiction
                      | exact congrArg (Value.int .i64) (num_takes s (by simp_all)).symm
                      | exact congrArg (Value.int .i64) (txt_takes s (by simp_all)).symm
                      | exact congrArg (Value.int .i64) (rt_none (by assumption)).symm
                      | exact congrArg (Value.int .i64) (rt_zero (by assumption) (by simp_all) (by simp_all)).symm
                    · refine W_skip ?_
                      refine W_seq ?_
                      refine W_seq ?_
                      refine W_region ?_
                      refine L_r (r_ms rfl) ?_
                      refine L_call (.plain rfl) rfl rfl (r_call Tryz.func23 rfl rfl rfl (by rfl)) (rnumber_walk s _) ?_
                      rintro v20 w8 ⟨rfl, c8⟩
                      have hz8 := c8.size
                      refine L_r (r_lss rfl rfl) ?_
                      refine L_nil ?_
                      refine W_if rfl (fun h21 => ?_) (fun h21 => ?_)
                      · refine W_seq ?_
                        refine W_region ?_
                        refine L_r (r_ai rfl) ?_
                        refine L_nil ?_
                        refine W_ret ?_
                        refine ret1 (v := .int _ _) rfl rfl ?_
                        refine ⟨?_, Ch.au⟩
                        first
                        | contradiction
                        | exact congrArg (Value.int .i64) (num_takes s (by simp_all)).symm
                        | exact congrArg (Value.int .i64) (txt_takes s (by simp_all)).symm
                        | exact congrArg (Value.int .i64) (rt_none (by assumption)).symm
                        | exact congrArg (Value.int .i64) (rt_zero (by assumption) (by simp_all) (by simp_all)).symm
                      · refine W_skip ?_
                        refine W_seq ?_
                        refine W_region ?_
                        refine L_r (r_ai rfl) ?_
                        refine L_nil ?_
                        refine W_ret ?_
                        refine ret1 (v := .int _ _) rfl rfl ?_
                        refine ⟨?_, Ch.au⟩
                        first
                        | contradiction
                        | exact congrArg (Value.int .i64) (num_takes s (by simp_all)).symm
                        | exact congrArg (Value.int .i64) (txt_takes s (by simp_all)).symm
                        | exact congrArg (Value.int .i64) (rt_none (by assumption)).symm
                        | exact congrArg (Value.int .i64) (rt_zero (by assumption) (by simp_all) (by simp_all)).symm
  · refine W_seq ?_
    refine W_region ?_
    refine L_r (r_eqls rfl rfl) ?_
    refine L_r (r_ab rfl) ?_
    refine L_nil ?_
    refine W_if rfl (fun h4 => ?_) (fun h4 => ?_)
    · refine W_skip ?_
      refine W_if rfl (fun h4 => ?_) (fun h4 => ?_)
      · refine W_seq ?_
        refine W_region ?_
        refine L_r (r_ai rfl) ?_
        refine L_nil ?_
        refine W_ret ?_
        refine ret1 (v := .int _ _) rfl rfl ?_
        refine ⟨?_, Ch.au⟩
        first
        | contradiction
        | exact congrArg (Value.int .i64) (num_takes s (by simp_all)).symm
        | exact congrArg (Value.int .i64) (txt_takes s (by simp_all)).symm
        | exact congrArg (Value.int .i64) (rt_none (by assumption)).symm
        | exact congrArg (Value.int .i64) (rt_zero (by assumption) (by simp_all) (by simp_all)).symm
      · refine W_seq ?_
        refine W_seq ?_
        refine W_region ?_
        refine L_r (r_eqls rfl rfl) ?_
        refine L_r (r_ab rfl) ?_
        refine L_nil ?_
        refine W_if rfl (fun h10 => ?_) (fun h10 => ?_)
        · refine W_skip ?_
          refine W_if rfl (fun h10 => ?_) (fun h10 => ?_)
          · refine W_seq ?_
            refine W_region ?_
            refine L_r (r_ai rfl) ?_
            refine L_nil ?_
            refine W_ret ?_
            refine ret1 (v := .int _ _) rfl rfl ?_
            refine ⟨?_, Ch.au⟩
            first
            | contradiction
            | exact congrArg (Value.int .i64) (num_takes s (by simp_all)).symm
            | exact congrArg (Value.int .i64) (txt_takes s (by simp_all)).symm
            | exact congrArg (Value.int .i64) (rt_none (by assumption)).symm
            | exact congrArg (Value.int .i64) (rt_zero (by assumption) (by simp_all) (by simp_all)).symm
          · refine W_skip ?_
            refine W_seq ?_
            refine W_seq ?_
            refine W_region ?_
            refine L_r (r_ms rfl) ?_
            refine L_call (.plain rfl) rfl rfl (r_call Tryz.func23 rfl rfl rfl (by rfl)) (rnumber_walk s _) ?_
            rintro v20 w9 ⟨rfl, c9⟩
            have hz9 := c9.size
            refine L_r (r_lss rfl rfl) ?_
            refine L_nil ?_
            refine W_if rfl (fun h21 => ?_) (fun h21 => ?_)
            · refine W_seq ?_
              refine W_region ?_
              refine L_r (r_ai rfl) ?_
              refine L_nil ?_
              refine W_ret ?_
              refine ret1 (v := .int _ _) rfl rfl ?_
              refine ⟨?_, Ch.au⟩
              first
              | contradiction
              | exact congrArg (Value.int .i64) (num_takes s (by simp_all)).symm
              | exact congrArg (Value.int .i64) (txt_takes s (by simp_all)).symm
              | exact congrArg (Value.int .i64) (rt_none (by assumption)).symm
              | exact congrArg (Value.int .i64) (rt_zero (by assumption) (by simp_all) (by simp_all)).symm
            · refine W_skip ?_
              refine W_seq ?_
              refine W_region ?_
              refine L_r (r_ai rfl) ?_
              refine L_nil ?_
              refine W_ret ?_
              refine ret1 (v := .int _ _) rfl rfl ?_
              refine ⟨?_, Ch.au⟩
              first
              | contradiction
              | exact congrArg (Value.int .i64) (num_takes s (by simp_all)).symm
              | exact congrArg (Value.int .i64) (txt_takes s (by simp_all)).symm
              | exact congrArg (Value.int .i64) (rt_none (by assumption)).symm
              | exact congrArg (Value.int .i64) (rt_zero (by assumption) (by simp_all) (by simp_all)).symm
        · refine W_seq ?_
          refine W_region ?_
          refine L_r (r_eqls rfl rfl) ?_
          refine L_r (r_ab rfl) ?_
          refine L_nil ?_
          refine W_if rfl (fun h10 => ?_) (fun h10 => ?_)
          · refine W_skip ?_
            refine W_if rfl (fun h10 => ?_) (fun h10 => ?_)
            · refine W_seq ?_
              refine W_region ?_
              refine L_r (r_ai rfl) ?_
              refine L_nil ?_
              refine W_ret ?_
              refine ret1 (v := .int _ _) rfl rfl ?_
              refine ⟨?_, Ch.au⟩
              first
              | contradiction
              | exact congrArg (Value.int .i64) (num_takes s (by simp_all)).symm
              | exact congrArg (Value.int .i64) (txt_takes s (by simp_all)).symm
              | exact congrArg (Value.int .i64) (rt_none (by assumption)).symm
              | exact congrArg (Value.int .i64) (rt_zero (by assumption) (by simp_all) (by simp_all)).symm
            · refine W_skip ?_
              refine W_seq ?_
              refine W_seq ?_
              refine W_region ?_
              refine L_r (r_ms rfl) ?_
              refine L_call (.plain rfl) rfl rfl (r_call Tryz.func23 rfl rfl rfl (by rfl)) (rnumber_walk s _) ?_
              rintro v20 w10 ⟨rfl, c10⟩
              have hz10 := c10.size
              refine L_r (r_lss rfl rfl) ?_
              refine L_nil ?_
              refine W_if rfl (fun h21 => ?_) (fun h21 => ?_)
              · refine W_seq ?_
                refine W_region ?_
                refine L_r (r_ai rfl) ?_
                refine L_nil ?_
                refine W_ret ?_
                refine ret1 (v := .int _ _) rfl rfl ?_
                refine ⟨?_, Ch.au⟩
                first
                | contradiction
                | exact congrArg (Value.int .i64) (num_takes s (by simp_all)).symm
                | exact congrArg (Value.int .i64) (txt_takes s (by simp_all)).symm
                | exact congrArg (Value.int .i64) (rt_none (by assumption)).symm
                | exact congrArg (Value.int .i64) (rt_zero (by assumption) (by simp_all) (by simp_all)).symm
              · refine W_skip ?_
                refine W_seq ?_
                refine W_region ?_
                refine L_r (r_ai rfl) ?_
                refine L_nil ?_
                refine W_ret ?_
                refine ret1 (v := .int _ _) rfl rfl ?_
                refine ⟨?_, Ch.au⟩
                first
                | contradiction
                | exact congrArg (Value.int .i64) (num_takes s (by simp_all)).symm
                | exact congrArg (Value.int .i64) (txt_takes s (by simp_all)).symm
                | exact congrArg (Value.int .i64) (rt_none (by assumption)).symm
                | exact congrArg (Value.int .i64) (rt_zero (by assumption) (by simp_all) (by simp_all)).symm
          · refine W_seq ?_
            refine W_region ?_
            refine L_r (r_eqls rfl rfl) ?_
            refine L_r (r_ab rfl) ?_
            refine L_nil ?_
            refine W_if rfl (fun h10 => ?_) (fun h10 => ?_)
            · refine W_skip ?_
              refine W_if rfl (fun h10 => ?_) (fun h10 => ?_)
              · refine W_seq ?_
                refine W_region ?_
                refine L_r (r_ai rfl) ?_
                refine L_nil ?_
                refine W_ret ?_
                refine ret1 (v := .int _ _) rfl rfl ?_
                refine ⟨?_, Ch.au⟩
                first
                | contradiction
                | exact congrArg (Value.int .i64) (num_takes s (by simp_all)).symm
                | exact congrArg (Value.int .i64) (txt_takes s (by simp_all)).symm
                | exact congrArg (Value.int .i64) (rt_none (by assumption)).symm
                | exact congrArg (Value.int .i64) (rt_zero (by assumption) (by simp_all) (by simp_all)).symm
              · refine W_skip ?_
                refine W_seq ?_
                refine W_seq ?_
                refine W_region ?_
                refine L_r (r_ms rfl) ?_
                refine L_call (.plain rfl) rfl rfl (r_call Tryz.func23 rfl rfl rfl (by rfl)) (rnumber_walk s _) ?_
                rintro v20 w11 ⟨rfl, c11⟩
                have hz11 := c11.size
                refine L_r (r_lss rfl rfl) ?_
                refine L_nil ?_
                refine W_if rfl (fun h21 => ?_) (fun h21 => ?_)
                · refine W_seq ?_
                  refine W_region ?_
                  refine L_r (r_ai rfl) ?_
                  refine L_nil ?_
                  refine W_ret ?_
                  refine ret1 (v := .int _ _) rfl rfl ?_
                  refine ⟨?_, Ch.au⟩
                  first
                  | contradiction
                  | exact congrArg (Value.int .i64) (num_takes s (by simp_all)).symm
                  | exact congrArg (Value.int .i64) (txt_takes s (by simp_all)).symm
                  | exact congrArg (Value.int .i64) (rt_none (by assumption)).symm
                  | exact congrArg (Value.int .i64) (rt_zero (by assumption) (by simp_all) (by simp_all)).symm
                · refine W_skip ?_
                  refine W_seq ?_
                  refine W_region ?_
                  refine L_r (r_ai rfl) ?_
                  refine L_nil ?_
                  refine W_ret ?_
                  refine ret1 (v := .int _ _) rfl rfl ?_
                  refine ⟨?_, Ch.au⟩
                  first
                  | contradiction
                  | exact congrArg (Value.int .i64) (num_takes s (by simp_all)).symm
                  | exact congrArg (Value.int .i64) (txt_takes s (by simp_all)).symm
                  | exact congrArg (Value.int .i64) (rt_none (by assumption)).symm
                  | exact congrArg (Value.int .i64) (rt_zero (by assumption) (by simp_all) (by simp_all)).symm
            · refine W_seq ?_
              refine W_region ?_
              refine L_r (r_eqls rfl rfl) ?_
              refine L_r (r_ab rfl) ?_
              refine L_nil ?_
              refine W_if rfl (fun h10 => ?_) (fun h10 => ?_)
              · refine W_skip ?_
                refine W_if rfl (fun h10 => ?_) (fun h10 => ?_)
                · refine W_seq ?_
                  refine W_region ?_
                  refine L_r (r_ai rfl) ?_
                  refine L_nil ?_
                  refine W_ret ?_
                  refine ret1 (v := .int _ _) rfl rfl ?_
                  refine ⟨?_, Ch.au⟩
                  first
                  | contradiction
                  | exact congrArg (Value.int .i64) (num_takes s (by simp_all)).symm
                  | exact congrArg (Value.int .i64) (txt_takes s (by simp_all)).symm
                  | exact congrArg (Value.int .i64) (rt_none (by assumption)).symm
                  | exact congrArg (Value.int .i64) (rt_zero (by assumption) (by simp_all) (by simp_all)).symm
                · refine W_skip ?_
                  refine W_seq ?_
                  refine W_seq ?_
                  refine W_region ?_
                  refine L_r (r_ms rfl) ?_
                  refine L_call (.plain rfl) rfl rfl (r_call Tryz.func23 rfl rfl rfl (by rfl)) (rnumber_walk s _) ?_
                  rintro v20 w12 ⟨rfl, c12⟩
                  have hz12 := c12.size
                  refine L_r (r_lss rfl rfl) ?_
                  refine L_nil ?_
                  refine W_if rfl (fun h21 => ?_) (fun h21 => ?_)
                  · refine W_seq ?_
                    refine W_region ?_
                    refine L_r (r_ai rfl) ?_
                    refine L_nil ?_
                    refine W_ret ?_
                    refine ret1 (v := .int _ _) rfl rfl ?_
                    refine ⟨?_, Ch.au⟩
                    first
                    | contradiction
                    | exact congrArg (Value.int .i64) (num_takes s (by simp_all)).symm
                    | exact congrArg (Value.int .i64) (txt_takes s (by simp_all)).symm
                    | exact congrArg (Value.int .i64) (rt_none (by assumption)).symm
                    | exact congrArg (Value.int .i64) (rt_zero (by assumption) (by simp_all) (by simp_all)).symm
                  · refine W_skip ?_
                    refine W_seq ?_
                    refine W_region ?_
                    refine L_r (r_ai rfl) ?_
                    refine L_nil ?_
                    refine W_ret ?_
                    refine ret1 (v := .int _ _) rfl rfl ?_
                    refine ⟨?_, Ch.au⟩
                    first
                    | contradiction
                    | exact congrArg (Value.int .i64) (num_takes s (by simp_all)).symm
                    | exact congrArg (Value.int .i64) (txt_takes s (by simp_all)).symm
                    | exact congrArg (Value.int .i64) (rt_none (by assumption)).symm
                    | exact congrArg (Value.int .i64) (rt_zero (by assumption) (by simp_all) (by simp_all)).symm
              · refine W_seq ?_
                refine W_region ?_
                refine L_r (r_eqls rfl rfl) ?_
                refine L_r (r_ab rfl) ?_
                refine L_nil ?_
                refine W_if rfl (fun h10 => ?_) (fun h10 => ?_)
                · refine W_skip ?_
                  refine W_if rfl (fun h10 => ?_) (fun h10 => ?_)
                  · refine W_seq ?_
                    refine W_region ?_
                    refine L_r (r_ai rfl) ?_
                    refine L_nil ?_
                    refine W_ret ?_
                    refine ret1 (v := .int _ _) rfl rfl ?_
                    refine ⟨?_, Ch.au⟩
                    first
                    | contradiction
                    | exact congrArg (Value.int .i64) (num_takes s (by simp_all)).symm
                    | exact congrArg (Value.int .i64) (txt_takes s (by simp_all)).symm
                    | exact congrArg (Value.int .i64) (rt_none (by assumption)).symm
                    | exact congrArg (Value.int .i64) (rt_zero (by assumption) (by simp_all) (by simp_all)).symm
                  · refine W_skip ?_
                    refine W_seq ?_
                    refine W_seq ?_
                    refine W_region ?_
                    refine L_r (r_ms rfl) ?_
                    refine L_call (.plain rfl) rfl rfl (r_call Tryz.func23 rfl rfl rfl (by rfl)) (rnumber_walk s _) ?_
                    rintro v20 w13 ⟨rfl, c13⟩
                    have hz13 := c13.size
                    refine L_r (r_lss rfl rfl) ?_
                    refine L_nil ?_
                    refine W_if rfl (fun h21 => ?_) (fun h21 => ?_)
                    · refine W_seq ?_
                      refine W_region ?_
                      refine L_r (r_ai rfl) ?_
                      refine L_nil ?_
                      refine W_ret ?_
                      refine ret1 (v := .int _ _) rfl rfl ?_
                      refine ⟨?_, Ch.au⟩
                      first
                      | contradiction
                      | exact congrArg (Value.int .i64) (num_takes s (by simp_all)).symm
                      | exact congrArg (Value.int .i64) (txt_takes s (by simp_all)).symm
                      | exact congrArg (Value.int .i64) (rt_none (by assumption)).symm
                      | exact congrArg (Value.int .i64) (rt_zero (by assumption) (by simp_all) (by simp_all)).symm
                    · refine W_skip ?_
                      refine W_seq ?_
                      refine W_region ?_
                      refine L_r (r_ai rfl) ?_
                      refine L_nil ?_
                      refine W_ret ?_
                      refine ret1 (v := .int _ _) rfl rfl ?_
                      refine ⟨?_, Ch.au⟩
                      first
                      | contradiction
                      | exact congrArg (Value.int .i64) (num_takes s (by simp_all)).symm
                      | exact congrArg (Value.int .i64) (txt_takes s (by simp_all)).symm
                      | exact congrArg (Value.int .i64) (rt_none (by assumption)).symm
                      | exact congrArg (Value.int .i64) (rt_zero (by assumption) (by simp_all) (by simp_all)).symm
                · refine W_seq ?_
                  refine W_region ?_
                  refine L_r (r_eqls rfl rfl) ?_
                  refine L_r (r_ab rfl) ?_
                  refine L_nil ?_
                  refine W_if rfl (fun h10 => ?_) (fun h10 => ?_)
                  · refine W_skip ?_
                    refine W_if rfl (fun h10 => ?_) (fun h10 => ?_)
                    · refine W_seq ?_
                      refine W_region ?_
                      refine L_r (r_ai rfl) ?_
                      refine L_nil ?_
                      refine W_ret ?_
                      refine ret1 (v := .int _ _) rfl rfl ?_
                      refine ⟨?_, Ch.au⟩
                      first
                      | contradiction
                      | exact congrArg (Value.int .i64) (num_takes s (by simp_all)).symm
                      | exact congrArg (Value.int .i64) (txt_takes s (by simp_all)).symm
                      | exact congrArg (Value.int .i64) (rt_none (by assumption)).symm
                      | exact congrArg (Value.int .i64) (rt_zero (by assumption) (by simp_all) (by simp_all)).symm
                    · refine W_skip ?_
                      refine W_seq ?_
                      refine W_seq ?_
                      refine W_region ?_
                      refine L_r (r_ms rfl) ?_
                      refine L_call (.plain rfl) rfl rfl (r_call Tryz.func23 rfl rfl rfl (by rfl)) (rnumber_walk s _) ?_
                      rintro v20 w14 ⟨rfl, c14⟩
                      have hz14 := c14.size
                      refine L_r (r_lss rfl rfl) ?_
                      refine L_nil ?_
                      refine W_if rfl (fun h21 => ?_) (fun h21 => ?_)
                      · refine W_seq ?_
                        refine W_region ?_
                        refine L_r (r_ai rfl) ?_
                        refine L_nil ?_
                        refine W_ret ?_
                        refine ret1 (v := .int _ _) rfl rfl ?_
                        refine ⟨?_, Ch.au⟩
                        first
                        | contradiction
                        | exact congrArg (Value.int .i64) (num_takes s (by simp_all)).symm
                        | exact congrArg (Value.int .i64) (txt_takes s (by simp_all)).symm
                        | exact congrArg (Value.int .i64) (rt_none (by assumption)).symm
                        | exact congrArg (Value.int .i64) (rt_zero (by assumption) (by simp_all) (by simp_all)).symm
                      · refine W_skip ?_
                        refine W_seq ?_
                        refine W_region ?_
                        refine L_r (r_ai rfl) ?_
                        refine L_nil ?_
                        refine W_ret ?_
                        refine ret1 (v := .int _ _) rfl rfl ?_
                        refine ⟨?_, Ch.au⟩
                        first
                        | contradiction
                        | exact congrArg (Value.int .i64) (num_takes s (by simp_all)).symm
                        | exact congrArg (Value.int .i64) (txt_takes s (by simp_all)).symm
                        | exact congrArg (Value.int .i64) (rt_none (by assumption)).symm
                        | exact congrArg (Value.int .i64) (rt_zero (by assumption) (by simp_all) (by simp_all)).symm
                  · refine W_seq ?_
                    refine W_region ?_
                    refine L_r (r_eqls rfl rfl) ?_
                    refine L_r (r_ab rfl) ?_
                    refine L_nil ?_
                    refine W_if rfl (fun h10 => ?_) (fun h10 => ?_)
                    · refine W_skip ?_
                      refine W_if rfl (fun h10 => ?_) (fun h10 => ?_)
                      · refine W_seq ?_
                        refine W_region ?_
                        refine L_r (r_ai rfl) ?_
                        refine L_nil ?_
                        refine W_ret ?_
                        refine ret1 (v := .int _ _) rfl rfl ?_
                        refine ⟨?_, Ch.au⟩
                        first
                        | contradiction
                        | exact congrArg (Value.int .i64) (num_takes s (by simp_all)).symm
                        | exact congrArg (Value.int .i64) (txt_takes s (by simp_all)).symm
                        | exact congrArg (Value.int .i64) (rt_none (by assumption)).symm
                        | exact congrArg (Value.int .i64) (rt_zero (by assumption) (by simp_all) (by simp_all)).symm
                      · refine W_skip ?_
                        refine W_seq ?_
                        refine W_seq ?_
                        refine W_region ?_
                        refine L_r (r_ms rfl) ?_
                        refine L_call (.plain rfl) rfl rfl (r_call Tryz.func23 rfl rfl rfl (by rfl)) (rnumber_walk s _) ?_
                        rintro v20 w15 ⟨rfl, c15⟩
                        have hz15 := c15.size
                        refine L_r (r_lss rfl rfl) ?_
                        refine L_nil ?_
                        refine W_if rfl (fun h21 => ?_) (fun h21 => ?_)
                        · refine W_seq ?_
                          refine W_region ?_
                          refine L_r (r_ai rfl) ?_
                          refine L_nil ?_
                          refine W_ret ?_
                          refine ret1 (v := .int _ _) rfl rfl ?_
                          refine ⟨?_, Ch.au⟩
                          first
                          | contradiction
                          | exact congrArg (Value.int .i64) (num_takes s (by simp_all)).symm
                          | exact congrArg (Value.int .i64) (txt_takes s (by simp_all)).symm
                          | exact congrArg (Value.int .i64) (rt_none (by assumption)).symm
                          | exact congrArg (Value.int .i64) (rt_zero (by assumption) (by simp_all) (by simp_all)).symm
                        · refine W_skip ?_
                          refine W_seq ?_
                          refine W_region ?_
                          refine L_r (r_ai rfl) ?_
                          refine L_nil ?_
                          refine W_ret ?_
                          refine ret1 (v := .int _ _) rfl rfl ?_
                          refine ⟨?_, Ch.au⟩
                          first
                          | contradiction
                          | exact congrArg (Value.int .i64) (num_takes s (by simp_all)).symm
                          | exact congrArg (Value.int .i64) (txt_takes s (by simp_all)).symm
                          | exact congrArg (Value.int .i64) (rt_none (by assumption)).symm
                          | exact congrArg (Value.int .i64) (rt_zero (by assumption) (by simp_all) (by simp_all)).symm
                    · refine W_region ?_
                      refine L_r (r_eqls rfl rfl) ?_
                      refine L_r (r_ab rfl) ?_
                      refine L_nil ?_
                      refine W_if rfl (fun h10 => ?_) (fun h10 => ?_)
                      · refine W_seq ?_
                        refine W_region ?_
                        refine L_r (r_ai rfl) ?_
                        refine L_nil ?_
                        refine W_ret ?_
                        refine ret1 (v := .int _ _) rfl rfl ?_
                        refine ⟨?_, Ch.au⟩
                        first
                        | contradiction
                        | exact congrArg (Value.int .i64) (num_takes s (by simp_all)).symm
                        | exact congrArg (Value.int .i64) (txt_takes s (by simp_all)).symm
                        | exact congrArg (Value.int .i64) (rt_none (by assumption)).symm
                        | exact congrArg (Value.int .i64) (rt_zero (by assumption) (by simp_all) (by simp_all)).symm
                      · refine W_skip ?_
                        refine W_seq ?_
                        refine W_seq ?_
                        refine W_region ?_
                        refine L_r (r_ms rfl) ?_
                        refine L_call (.plain rfl) rfl rfl (r_call Tryz.func23 rfl rfl rfl (by rfl)) (rnumber_walk s _) ?_
                        rintro v20 w16 ⟨rfl, c16⟩
                        have hz16 := c16.size
                        refine L_r (r_lss rfl rfl) ?_
                        refine L_nil ?_
                        refine W_if rfl (fun h21 => ?_) (fun h21 => ?_)
                        · refine W_seq ?_
                          refine W_region ?_
                          refine L_r (r_ai rfl) ?_
                          refine L_nil ?_
                          refine W_ret ?_
                          refine ret1 (v := .int _ _) rfl rfl ?_
                          refine ⟨?_, Ch.au⟩
                          first
                          | contradiction
                          | exact congrArg (Value.int .i64) (num_takes s (by simp_all)).symm
                          | exact congrArg (Value.int .i64) (txt_takes s (by simp_all)).symm
                          | exact congrArg (Value.int .i64) (rt_none (by assumption)).symm
                          | exact congrArg (Value.int .i64) (rt_zero (by assumption) (by simp_all) (by simp_all)).symm
                        · refine W_skip ?_
                          refine W_seq ?_
                          refine W_region ?_
                          refine L_r (r_ai rfl) ?_
                          refine L_nil ?_
                          refine W_ret ?_
                          refine ret1 (v := .int _ _) rfl rfl ?_
                          refine ⟨?_, Ch.au⟩
                          first
                          | contradiction
                          | exact congrArg (Value.int .i64) (num_takes s (by simp_all)).symm
                          | exact congrArg (Value.int .i64) (txt_takes s (by simp_all)).symm
                          | exact congrArg (Value.int .i64) (rt_none (by assumption)).symm
                          | exact congrArg (Value.int .i64) (rt_zero (by assumption) (by simp_all) (by simp_all)).symm
    · refine W_seq ?_
      refine W_region ?_
      refine L_r (r_eqls rfl rfl) ?_
      refine L_r (r_ab rfl) ?_
      refine L_nil ?_
      refine W_if rfl (fun h4 => ?_) (fun h4 => ?_)
      · refine W_skip ?_
        refine W_if rfl (fun h4 => ?_) (fun h4 => ?_)
        · refine W_seq ?_
          refine W_region ?_
          refine L_r (r_ai rfl) ?_
          refine L_nil ?_
          refine W_ret ?_
          refine ret1 (v := .int _ _) rfl rfl ?_
          refine ⟨?_, Ch.au⟩
          first
          | contradiction
          | exact congrArg (Value.int .i64) (num_takes s (by simp_all)).symm
          | exact congrArg (Value.int .i64) (txt_takes s (by simp_all)).symm
          | exact congrArg (Value.int .i64) (rt_none (by assumption)).symm
          | exact congrArg (Value.int .i64) (rt_zero (by assumption) (by simp_all) (by simp_all)).symm
        · refine W_seq ?_
          refine W_seq ?_
          refine W_region ?_
          refine L_r (r_eqls rfl rfl) ?_
          refine L_r (r_ab rfl) ?_
          refine L_nil ?_
          refine W_if rfl (fun h10 => ?_) (fun h10 => ?_)
          · refine W_skip ?_
            refine W_if rfl (fun h10 => ?_) (fun h10 => ?_)
            · refine W_seq ?_
              refine W_region ?_
              refine L_r (r_ai rfl) ?_
              refine L_nil ?_
              refine W_ret ?_
              refine ret1 (v := .int _ _) rfl rfl ?_
              refine ⟨?_, Ch.au⟩
              first
              | contradiction
              | exact congrArg (Value.int .i64) (num_takes s (by simp_all)).symm
              | exact congrArg (Value.int .i64) (txt_takes s (by simp_all)).symm
              | exact congrArg (Value.int .i64) (rt_none (by assumption)).symm
              | exact congrArg (Value.int .i64) (rt_zero (by assumption) (by simp_all) (by simp_all)).symm
            · refine W_skip ?_
              refine W_seq ?_
              refine W_seq ?_
              refine W_region ?_
              refine L_r (r_ms rfl) ?_
              refine L_call (.plain rfl) rfl rfl (r_call Tryz.func23 rfl rfl rfl (by rfl)) (rnumber_walk s _) ?_
              rintro v20 w17 ⟨rfl, c17⟩
              have hz17 := c17.size
              refine L_r (r_lss rfl rfl) ?_
              refine L_nil ?_
              refine W_if rfl (fun h21 => ?_) (fun h21 => ?_)
              · refine W_seq ?_
                refine W_region ?_
                refine L_r (r_ai rfl) ?_
                refine L_nil ?_
                refine W_ret ?_
                refine ret1 (v := .int _ _) rfl rfl ?_
                refine ⟨?_, Ch.au⟩
                first
                | contradiction
                | exact congrArg (Value.int .i64) (num_takes s (by simp_all)).symm
                | exact congrArg (Value.int .i64) (txt_takes s (by simp_all)).symm
                | exact congrArg (Value.int .i64) (rt_none (by assumption)).symm
                | exact congrArg (Value.int .i64) (rt_zero (by assumption) (by simp_all) (by simp_all)).symm
              · refine W_skip ?_
                refine W_seq ?_
                refine W_region ?_
                refine L_r (r_ai rfl) ?_
                refine L_nil ?_
                refine W_ret ?_
                refine ret1 (v := .int _ _) rfl rfl ?_
                refine ⟨?_, Ch.au⟩
                first
                | contradiction
                | exact congrArg (Value.int .i64) (num_takes s (by simp_all)).symm
                | exact congrArg (Value.int .i64) (txt_takes s (by simp_all)).symm
                | exact congrArg (Value.int .i64) (rt_none (by assumption)).symm
                | exact congrArg (Value.int .i64) (rt_zero (by assumption) (by simp_all) (by simp_all)).symm
          · refine W_seq ?_
            refine W_region ?_
            refine L_r (r_eqls rfl rfl) ?_
            refine L_r (r_ab rfl) ?_
            refine L_nil ?_
            refine W_if rfl (fun h10 => ?_) (fun h10 => ?_)
            · refine W_skip ?_
              refine W_if rfl (fun h10 => ?_) (fun h10 => ?_)
              · refine W_seq ?_
                refine W_region ?_
                refine L_r (r_ai rfl) ?_
                refine L_nil ?_
                refine W_ret ?_
                refine ret1 (v := .int _ _) rfl rfl ?_
                refine ⟨?_, Ch.au⟩
                first
                | contradiction
                | exact congrArg (Value.int .i64) (num_takes s (by simp_all)).symm
                | exact congrArg (Value.int .i64) (txt_takes s (by simp_all)).symm
                | exact congrArg (Value.int .i64) (rt_none (by assumption)).symm
                | exact congrArg (Value.int .i64) (rt_zero (by assumption) (by simp_all) (by simp_all)).symm
              · refine W_skip ?_
                refine W_seq ?_
                refine W_seq ?_
                refine W_region ?_
                refine L_r (r_ms rfl) ?_
                refine L_call (.plain rfl) rfl rfl (r_call Tryz.func23 rfl rfl rfl (by rfl)) (rnumber_walk s _) ?_
                rintro v20 w18 ⟨rfl, c18⟩
                have hz18 := c18.size
                refine L_r (r_lss rfl rfl) ?_
                refine L_nil ?_
                refine W_if rfl (fun h21 => ?_) (fun h21 => ?_)
                · refine W_seq ?_
                  refine W_region ?_
                  refine L_r (r_ai rfl) ?_
                  refine L_nil ?_
                  refine W_ret ?_
                  refine ret1 (v := .int _ _) rfl rfl ?_
                  refine ⟨?_, Ch.au⟩
                  first
                  | contradiction
                  | exact congrArg (Value.int .i64) (num_takes s (by simp_all)).symm
                  | exact congrArg (Value.int .i64) (txt_takes s (by simp_all)).symm
                  | exact congrArg (Value.int .i64) (rt_none (by assumption)).symm
                  | exact congrArg (Value.int .i64) (rt_zero (by assumption) (by simp_all) (by simp_all)).symm
                · refine W_skip ?_
                  refine W_seq ?_
                  refine W_region ?_
                  refine L_r (r_ai rfl) ?_
                  refine L_nil ?_
                  refine W_ret ?_
                  refine ret1 (v := .int _ _) rfl rfl ?_
                  refine ⟨?_, Ch.au⟩
                  first
                  | contradiction
                  | exact congrArg (Value.int .i64) (num_takes s (by simp_all)).symm
                  | exact congrArg (Value.int .i64) (txt_takes s (by simp_all)).symm
                  | exact congrArg (Value.int .i64) (rt_none (by assumption)).symm
                  | exact congrArg (Value.int .i64) (rt_zero (by assumption) (by simp_all) (by simp_all)).symm
            · refine W_seq ?_
              refine W_region ?_
              refine L_r (r_eqls rfl rfl) ?_
              refine L_r (r_ab rfl) ?_
              refine L_nil ?_
              refine W_if rfl (fun h10 => ?_) (fun h10 => ?_)
              · refine W_skip ?_
                refine W_if rfl (fun h10 => ?_) (fun h10 => ?_)
                · refine W_seq ?_
                  refine W_region ?_
                  refine L_r (r_ai rfl) ?_
                  refine L_nil ?_
                  refine W_ret ?_
                  refine ret1 (v := .int _ _) rfl rfl ?_
                  refine ⟨?_, Ch.au⟩
                  first
                  | contradiction
                  | exact congrArg (Value.int .i64) (num_takes s (by simp_all)).symm
                  | exact congrArg (Value.int .i64) (txt_takes s (by simp_all)).symm
                  | exact congrArg (Value.int .i64) (rt_none (by assumption)).symm
                  | exact congrArg (Value.int .i64) (rt_zero (by assumption) (by simp_all) (by simp_all)).symm
                · refine W_skip ?_
                  refine W_seq ?_
                  refine W_seq ?_
                  refine W_region ?_
                  refine L_r (r_ms rfl) ?_
                  refine L_call (.plain rfl) rfl rfl (r_call Tryz.func23 rfl rfl rfl (by rfl)) (rnumber_walk s _) ?_
                  rintro v20 w19 ⟨rfl, c19⟩
                  have hz19 := c19.size
                  refine L_r (r_lss rfl rfl) ?_
                  refine L_nil ?_
                  refine W_if rfl (fun h21 => ?_) (fun h21 => ?_)
                  · refine W_seq ?_
                    refine W_region ?_
                    refine L_r (r_ai rfl) ?_
                    refine L_nil ?_
                    refine W_ret ?_
                    refine ret1 (v := .int _ _) rfl rfl ?_
                    refine ⟨?_, Ch.au⟩
                    first
                    | contradiction
                    | exact congrArg (Value.int .i64) (num_takes s (by simp_all)).symm
                    | exact congrArg (Value.int .i64) (txt_takes s (by simp_all)).symm
                    | exact congrArg (Value.int .i64) (rt_none (by assumption)).symm
                    | exact congrArg (Value.int .i64) (rt_zero (by assumption) (by simp_all) (by simp_all)).symm
                  · refine W_skip ?_
                    refine W_seq ?_
                    refine W_region ?_
                    refine L_r (r_ai rfl) ?_
                    refine L_nil ?_
                    refine W_ret ?_
                    refine ret1 (v := .int _ _) rfl rfl ?_
                    refine ⟨?_, Ch.au⟩
                    first
                    | contradiction
                    | exact congrArg (Value.int .i64) (num_takes s (by simp_all)).symm
                    | exact congrArg (Value.int .i64) (txt_takes s (by simp_all)).symm
                    | exact congrArg (Value.int .i64) (rt_none (by assumption)).symm
                    | exact congrArg (Value.int .i64) (rt_zero (by assumption) (by simp_all) (by simp_all)).symm
              · refine W_seq ?_
                refine W_region ?_
                refine L_r (r_eqls rfl rfl) ?_
                refine L_r (r_ab rfl) ?_
                refine L_nil ?_
                refine W_if rfl (fun h10 => ?_) (fun h10 => ?_)
                · refine W_skip ?_
                  refine W_if rfl (fun h10 => ?_) (fun h10 => ?_)
                  · refine W_seq ?_
                    refine W_region ?_
                    refine L_r (r_ai rfl) ?_
                    refine L_nil ?_
                    refine W_ret ?_
                    refine ret1 (v := .int _ _) rfl rfl ?_
                    refine ⟨?_, Ch.au⟩
                    first
                    | contradiction
                    | exact congrArg (Value.int .i64) (num_takes s (by simp_all)).symm
                    | exact congrArg (Value.int .i64) (txt_takes s (by simp_all)).symm
                    | exact congrArg (Value.int .i64) (rt_none (by assumption)).symm
                    | exact congrArg (Value.int .i64) (rt_zero (by assumption) (by simp_all) (by simp_all)).symm
                  · refine W_skip ?_
                    refine W_seq ?_
                    refine W_seq ?_
                    refine W_region ?_
                    refine L_r (r_ms rfl) ?_
                    refine L_call (.plain rfl) rfl rfl (r_call Tryz.func23 rfl rfl rfl (by rfl)) (rnumber_walk s _) ?_
                    rintro v20 w20 ⟨rfl, c20⟩
                    have hz20 := c20.size
                    refine L_r (r_lss rfl rfl) ?_
                    refine L_nil ?_
                    refine W_if rfl (fun h21 => ?_) (fun h21 => ?_)
                    · refine W_seq ?_
                      refine W_region ?_
                      refine L_r (r_ai rfl) ?_
                      refine L_nil ?_
                      refine W_ret ?_
                      refine ret1 (v := .int _ _) rfl rfl ?_
                      refine ⟨?_, Ch.au⟩
                      first
                      | contradiction
                      | exact congrArg (Value.int .i64) (num_takes s (by simp_all)).symm
                      | exact congrArg (Value.int .i64) (txt_takes s (by simp_all)).symm
                      | exact congrArg (Value.int .i64) (rt_none (by assumption)).symm
                      | exact congrArg (Value.int .i64) (rt_zero (by assumption) (by simp_all) (by simp_all)).symm
                    · refine W_skip ?_
                      refine W_seq ?_
                      refine W_region ?_
                      refine L_r (r_ai rfl) ?_
                      refine L_nil ?_
                      refine W_ret ?_
                      refine ret1 (v := .int _ _) rfl rfl ?_
                      refine ⟨?_, Ch.au⟩
                      first
                      | contradiction
                      | exact congrArg (Value.int .i64) (num_takes s (by simp_all)).symm
                      | exact congrArg (Value.int .i64) (txt_takes s (by simp_all)).symm
                      | exact congrArg (Value.int .i64) (rt_none (by assumption)).symm
                      | exact congrArg (Value.int .i64) (rt_zero (by assumption) (by simp_all) (by simp_all)).symm
                · refine W_seq ?_
                  refine W_region ?_
                  refine L_r (r_eqls rfl rfl) ?_
                  refine L_r (r_ab rfl) ?_
                  refine L_nil ?_
                  refine W_if rfl (fun h10 => ?_) (fun h10 => ?_)
                  · refine W_skip ?_
                    refine W_if rfl (fun h10 => ?_) (fun h10 => ?_)
                    · refine W_seq ?_
                      refine W_region ?_
                      refine L_r (r_ai rfl) ?_
                      refine L_nil ?_
                      refine W_ret ?_
                      refine ret1 (v := .int _ _) rfl rfl ?_
                      refine ⟨?_, Ch.au⟩
                      first
                      | contradiction
                      | exact congrArg (Value.int .i64) (num_takes s (by simp_all)).symm
                      | exact congrArg (Value.int .i64) (txt_takes s (by simp_all)).symm
                      | exact congrArg (Value.int .i64) (rt_none (by assumption)).symm
                      | exact congrArg (Value.int .i64) (rt_zero (by assumption) (by simp_all) (by simp_all)).symm
                    · refine W_skip ?_
                      refine W_seq ?_
                      refine W_seq ?_
                      refine W_region ?_
                      refine L_r (r_ms rfl) ?_
                      refine L_call (.plain rfl) rfl rfl (r_call Tryz.func23 rfl rfl rfl (by rfl)) (rnumber_walk s _) ?_
                      rintro v20 w21 ⟨rfl, c21⟩
                      have hz21 := c21.size
                      refine L_r (r_lss rfl rfl) ?_
                      refine L_nil ?_
                      refine W_if rfl (fun h21 => ?_) (fun h21 => ?_)
                      · refine W_seq ?_
                        refine W_region ?_
                        refine L_r (r_ai rfl) ?_
                        refine L_nil ?_
                        refine W_ret ?_
                        refine ret1 (v := .int _ _) rfl rfl ?_
                        refine ⟨?_, Ch.au⟩
                        first
                        | contradiction
                        | exact congrArg (Value.int .i64) (num_takes s (by simp_all)).symm
                        | exact congrArg (Value.int .i64) (txt_takes s (by simp_all)).symm
                        | exact congrArg (Value.int .i64) (rt_none (by assumption)).symm
                        | exact congrArg (Value.int .i64) (rt_zero (by assumption) (by simp_all) (by simp_all)).symm
                      · refine W_skip ?_
                        refine W_seq ?_
                        refine W_region ?_
                        refine L_r (r_ai rfl) ?_
                        refine L_nil ?_
                        refine W_ret ?_
                        refine ret1 (v := .int _ _) rfl rfl ?_
                        refine ⟨?_, Ch.au⟩
                        first
                        | contradiction
                        | exact congrArg (Value.int .i64) (num_takes s (by simp_all)).symm
                        | exact congrArg (Value.int .i64) (txt_takes s (by simp_all)).symm
                        | exact congrArg (Value.int .i64) (rt_none (by assumption)).symm
                        | exact congrArg (Value.int .i64) (rt_zero (by assumption) (by simp_all) (by simp_all)).symm
                  · refine W_seq ?_
                    refine W_region ?_
                    refine L_r (r_eqls rfl rfl) ?_
                    refine L_r (r_ab rfl) ?_
                    refine L_nil ?_
                    refine W_if rfl (fun h10 => ?_) (fun h10 => ?_)
                    · refine W_skip ?_
                      refine W_if rfl (fun h10 => ?_) (fun h10 => ?_)
                      · refine W_seq ?_
                        refine W_region ?_
                        refine L_r (r_ai rfl) ?_
                        refine L_nil ?_
                        refine W_ret ?_
                        refine ret1 (v := .int _ _) rfl rfl ?_
                        refine ⟨?_, Ch.au⟩
                        first
                        | contradiction
                        | exact congrArg (Value.int .i64) (num_takes s (by simp_all)).symm
                        | exact congrArg (Value.int .i64) (txt_takes s (by simp_all)).symm
                        | exact congrArg (Value.int .i64) (rt_none (by assumption)).symm
                        | exact congrArg (Value.int .i64) (rt_zero (by assumption) (by simp_all) (by simp_all)).symm
                      · refine W_skip ?_
                        refine W_seq ?_
                        refine W_seq ?_
                        refine W_region ?_
                        refine L_r (r_ms rfl) ?_
                        refine L_call (.plain rfl) rfl rfl (r_call Tryz.func23 rfl rfl rfl (by rfl)) (rnumber_walk s _) ?_
                        rintro v20 w22 ⟨rfl, c22⟩
                        have hz22 := c22.size
                        refine L_r (r_lss rfl rfl) ?_
                        refine L_nil ?_
                        refine W_if rfl (fun h21 => ?_) (fun h21 => ?_)
                        · refine W_seq ?_
                          refine W_region ?_
                          refine L_r (r_ai rfl) ?_
                          refine L_nil ?_
                          refine W_ret ?_
                          refine ret1 (v := .int _ _) rfl rfl ?_
                          refine ⟨?_, Ch.au⟩
                          first
                          | contradiction
                          | exact congrArg (Value.int .i64) (num_takes s (by simp_all)).symm
                          | exact congrArg (Value.int .i64) (txt_takes s (by simp_all)).symm
                          | exact congrArg (Value.int .i64) (rt_none (by assumption)).symm
                          | exact congrArg (Value.int .i64) (rt_zero (by assumption) (by simp_all) (by simp_all)).symm
                        · refine W_skip ?_
                          refine W_seq ?_
                          refine W_region ?_
                          refine L_r (r_ai rfl) ?_
                          refine L_nil ?_
                          refine W_ret ?_
                          refine ret1 (v := .int _ _) rfl rfl ?_
                          refine ⟨?_, Ch.au⟩
                          first
                          | contradiction
                          | exact congrArg (Value.int .i64) (num_takes s (by simp_all)).symm
                          | exact congrArg (Value.int .i64) (txt_takes s (by simp_all)).symm
                          | exact congrArg (Value.int .i64) (rt_none (by assumption)).symm
                          | exact congrArg (Value.int .i64) (rt_zero (by assumption) (by simp_all) (by simp_all)).symm
                    · refine W_seq ?_
                      refine W_region ?_
                      refine L_r (r_eqls rfl rfl) ?_
                      refine L_r (r_ab rfl) ?_
                      refine L_nil ?_
                      refine W_if rfl (fun h10 => ?_) (fun h10 => ?_)
                      · refine W_skip ?_
                        refine W_if rfl (fun h10 => ?_) (fun h10 => ?_)
                        · refine W_seq ?_
                          refine W_region ?_
                          refine L_r (r_ai rfl) ?_
                          refine L_nil ?_
                          refine W_ret ?_
                          refine ret1 (v := .int _ _) rfl rfl ?_
                          refine ⟨?_, Ch.au⟩
                          first
                          | contradiction
                          | exact congrArg (Value.int .i64) (num_takes s (by simp_all)).symm
                          | exact congrArg (Value.int .i64) (txt_takes s (by simp_all)).symm
                          | exact congrArg (Value.int .i64) (rt_none (by assumption)).symm
                          | exact congrArg (Value.int .i64) (rt_zero (by assumption) (by simp_all) (by simp_all)).symm
                        · refine W_skip ?_
                          refine W_seq ?_
                          refine W_seq ?_
                          refine W_region ?_
                          refine L_r (r_ms rfl) ?_
                          refine L_call (.plain rfl) rfl rfl (r_call Tryz.func23 rfl rfl rfl (by rfl)) (rnumber_walk s _) ?_
                          rintro v20 w23 ⟨rfl, c23⟩
                          have hz23 := c23.size
                          refine L_r (r_lss rfl rfl) ?_
                          refine L_nil ?_
                          refine W_if rfl (fun h21 => ?_) (fun h21 => ?_)
                          · refine W_seq ?_
                            refine W_region ?_
                            refine L_r (r_ai rfl) ?_
                            refine L_nil ?_
                            refine W_ret ?_
                            refine ret1 (v := .int _ _) rfl rfl ?_
                            refine ⟨?_, Ch.au⟩
                            first
                            | contradiction
                            | exact congrArg (Value.int .i64) (num_takes s (by simp_all)).symm
                            | exact congrArg (Value.int .i64) (txt_takes s (by simp_all)).symm
                            | exact congrArg (Value.int .i64) (rt_none (by assumption)).symm
                            | exact congrArg (Value.int .i64) (rt_zero (by assumption) (by simp_all) (by simp_all)).symm
                          · refine W_skip ?_
                            refine W_seq ?_
                            refine W_region ?_
                            refine L_r (r_ai rfl) ?_
                            refine L_nil ?_
                            refine W_ret ?_
                            refine ret1 (v := .int _ _) rfl rfl ?_
                            refine ⟨?_, Ch.au⟩
                            first
                            | contradiction
                            | exact congrArg (Value.int .i64) (num_takes s (by simp_all)).symm
                            | exact congrArg (Value.int .i64) (txt_takes s (by simp_all)).symm
                            | exact congrArg (Value.int .i64) (rt_none (by assumption)).symm
                            | exact congrArg (Value.int .i64) (rt_zero (by assumption) (by simp_all) (by simp_all)).symm
                      · refine W_region ?_
                        refine L_r (r_eqls rfl rfl) ?_
                        refine L_r (r_ab rfl) ?_
                        refine L_nil ?_
                        refine W_if rfl (fun h10 => ?_) (fun h10 => ?_)
                        · refine W_seq ?_
                          refine W_region ?_
                          refine L_r (r_ai rfl) ?_
                          refine L_nil ?_
                          refine W_ret ?_
                          refine ret1 (v := .int _ _) rfl rfl ?_
                          refine ⟨?_, Ch.au⟩
                          first
                          | contradiction
                          | exact congrArg (Value.int .i64) (num_takes s (by simp_all)).symm
                          | exact congrArg (Value.int .i64) (txt_takes s (by simp_all)).symm
                          | exact congrArg (Value.int .i64) (rt_none (by assumption)).symm
                          | exact congrArg (Value.int .i64) (rt_zero (by assumption) (by simp_all) (by simp_all)).symm
                        · refine W_skip ?_
                          refine W_seq ?_
                          refine W_seq ?_
                          refine W_region ?_
                          refine L_r (r_ms rfl) ?_
                          refine L_call (.plain rfl) rfl rfl (r_call Tryz.func23 rfl rfl rfl (by rfl)) (rnumber_walk s _) ?_
                          rintro v20 w24 ⟨rfl, c24⟩
                          have hz24 := c24.size
                          refine L_r (r_lss rfl rfl) ?_
                          refine L_nil ?_
                          refine W_if rfl (fun h21 => ?_) (fun h21 => ?_)
                          · refine W_seq ?_
                            refine W_region ?_
                            refine L_r (r_ai rfl) ?_
                            refine L_nil ?_
                            refine W_ret ?_
                            refine ret1 (v := .int _ _) rfl rfl ?_
                            refine ⟨?_, Ch.au⟩
                            first
                            | contradiction
                            | exact congrArg (Value.int .i64) (num_takes s (by simp_all)).symm
                            | exact congrArg (Value.int .i64) (txt_takes s (by simp_all)).symm
                            | exact congrArg (Value.int .i64) (rt_none (by assumption)).symm
                            | exact congrArg (Value.int .i64) (rt_zero (by assumption) (by simp_all) (by simp_all)).symm
                          · refine W_skip ?_
                            refine W_seq ?_
                            refine W_region ?_
                            refine L_r (r_ai rfl) ?_
                            refine L_nil ?_
                            refine W_ret ?_
                            refine ret1 (v := .int _ _) rfl rfl ?_
                            refine ⟨?_, Ch.au⟩
                            first
                            | contradiction
                            | exact congrArg (Value.int .i64) (num_takes s (by simp_all)).symm
                            | exact congrArg (Value.int .i64) (txt_takes s (by simp_all)).symm
                            | exact congrArg (Value.int .i64) (rt_none (by assumption)).symm
                            | exact congrArg (Value.int .i64) (rt_zero (by assumption) (by simp_all) (by simp_all)).symm
      · refine W_seq ?_
        refine W_region ?_
        refine L_r (r_eqls rfl rfl) ?_
        refine L_r (r_ab rfl) ?_
        refine L_nil ?_
        refine W_if rfl (fun h4 => ?_) (fun h4 => ?_)
        · refine W_skip ?_
          refine W_if rfl (fun h4 => ?_) (fun h4 => ?_)
          · refine W_seq ?_
            refine W_region ?_
            refine L_r (r_ai rfl) ?_
            refine L_nil ?_
            refine W_ret ?_
            refine ret1 (v := .int _ _) rfl rfl ?_
            refine ⟨?_, Ch.au⟩
            first
            | contradiction
            | exact congrArg (Value.int .i64) (num_takes s (by simp_all)).symm
            | exact congrArg (Value.int .i64) (txt_takes s (by simp_all)).symm
            | exact congrArg (Value.int .i64) (rt_none (by assumption)).symm
            | exact congrArg (Value.int .i64) (rt_zero (by assumption) (by simp_all) (by simp_all)).symm
          · refine W_seq ?_
            refine W_seq ?_
            refine W_region ?_
            refine L_r (r_eqls rfl rfl) ?_
            refine L_r (r_ab rfl) ?_
            refine L_nil ?_
            refine W_if rfl (fun h10 => ?_) (fun h10 => ?_)
            · refine W_skip ?_
              refine W_if rfl (fun h10 => ?_) (fun h10 => ?_)
              · refine W_seq ?_
                refine W_region ?_
                refine L_r (r_ai rfl) ?_
                refine L_nil ?_
                refine W_ret ?_
                refine ret1 (v := .int _ _) rfl rfl ?_
                refine ⟨?_, Ch.au⟩
                first
                | contradiction
                | exact congrArg (Value.int .i64) (num_takes s (by simp_all)).symm
                | exact congrArg (Value.int .i64) (txt_takes s (by simp_all)).symm
                | exact congrArg (Value.int .i64) (rt_none (by assumption)).symm
                | exact congrArg (Value.int .i64) (rt_zero (by assumption) (by simp_all) (by simp_all)).symm
              · refine W_skip ?_
                refine W_seq ?_
                refine W_seq ?_
                refine W_region ?_
                refine L_r (r_ms rfl) ?_
                refine L_call (.plain rfl) rfl rfl (r_call Tryz.func23 rfl rfl rfl (by rfl)) (rnumber_walk s _) ?_
                rintro v20 w25 ⟨rfl, c25⟩
                have hz25 := c25.size
                refine L_r (r_lss rfl rfl) ?_
                refine L_nil ?_
                refine W_if rfl (fun h21 => ?_) (fun h21 => ?_)
                · refine W_seq ?_
                  refine W_region ?_
                  refine L_r (r_ai rfl) ?_
                  refine L_nil ?_
                  refine W_ret ?_
                  refine ret1 (v := .int _ _) rfl rfl ?_
                  refine ⟨?_, Ch.au⟩
                  first
                  | contradiction
                  | exact congrArg (Value.int .i64) (num_takes s (by simp_all)).symm
                  | exact congrArg (Value.int .i64) (txt_takes s (by simp_all)).symm
                  | exact congrArg (Value.int .i64) (rt_none (by assumption)).symm
                  | exact congrArg (Value.int .i64) (rt_zero (by assumption) (by simp_all) (by simp_all)).symm
                · refine W_skip ?_
                  refine W_seq ?_
                  refine W_region ?_
                  refine L_r (r_ai rfl) ?_
                  refine L_nil ?_
                  refine W_ret ?_
                  refine ret1 (v := .int _ _) rfl rfl ?_
                  refine ⟨?_, Ch.au⟩
                  first
                  | contradiction
                  | exact congrArg (Value.int .i64) (num_takes s (by simp_all)).symm
                  | exact congrArg (Value.int .i64) (txt_takes s (by simp_all)).symm
                  | exact congrArg (Value.int .i64) (rt_none (by assumption)).symm
                  | exact congrArg (Value.int .i64) (rt_zero (by assumption) (by simp_all) (by simp_all)).symm
            · refine W_seq ?_
              refine W_region ?_
              refine L_r (r_eqls rfl rfl) ?_
              refine L_r (r_ab rfl) ?_
              refine L_nil ?_
              refine W_if rfl (fun h10 => ?_) (fun h10 => ?_)
              · refine W_skip ?_
                refine W_if rfl (fun h10 => ?_) (fun h10 => ?_)
                · refine W_seq ?_
                  refine W_region ?_
                  refine L_r (r_ai rfl) ?_
                  refine L_nil ?_
                  refine W_ret ?_
                  refine ret1 (v := .int _ _) rfl rfl ?_
                  refine ⟨?_, Ch.au⟩
                  first
                  | contradiction
                  | exact congrArg (Value.int .i64) (num_takes s (by simp_all)).symm
                  | exact congrArg (Value.int .i64) (txt_takes s (by simp_all)).symm
                  | exact congrArg (Value.int .i64) (rt_none (by assumption)).symm
                  | exact congrArg (Value.int .i64) (rt_zero (by assumption) (by simp_all) (by simp_all)).symm
                · refine W_skip ?_
                  refine W_seq ?_
                  refine W_seq ?_
                  refine W_region ?_
                  refine L_r (r_ms rfl) ?_
                  refine L_call (.plain rfl) rfl rfl (r_call Tryz.func23 rfl rfl rfl (by rfl)) (rnumber_walk s _) ?_
                  rintro v20 w26 ⟨rfl, c26⟩
                  have hz26 := c26.size
                  refine L_r (r_lss rfl rfl) ?_
                  refine L_nil ?_
                  refine W_if rfl (fun h21 => ?_) (fun h21 => ?_)
                  · refine W_seq ?_
                    refine W_region ?_
                    refine L_r (r_ai rfl) ?_
                    refine L_nil ?_
                    refine W_ret ?_
                    refine ret1 (v := .int _ _) rfl rfl ?_
                    refine ⟨?_, Ch.au⟩
                    first
                    | contradiction
                    | exact congrArg (Value.int .i64) (num_takes s (by simp_all)).symm
                    | exact congrArg (Value.int .i64) (txt_takes s (by simp_all)).symm
                    | exact congrArg (Value.int .i64) (rt_none (by assumption)).symm
                    | exact congrArg (Value.int .i64) (rt_zero (by assumption) (by simp_all) (by simp_all)).symm
                  · refine W_skip ?_
                    refine W_seq ?_
                    refine W_region ?_
                    refine L_r (r_ai rfl) ?_
                    refine L_nil ?_
                    refine W_ret ?_
                    refine ret1 (v := .int _ _) rfl rfl ?_
                    refine ⟨?_, Ch.au⟩
                    first
                    | contradiction
                    | exact congrArg (Value.int .i64) (num_takes s (by simp_all)).symm
                    | exact congrArg (Value.int .i64) (txt_takes s (by simp_all)).symm
                    | exact congrArg (Value.int .i64) (rt_none (by assumption)).symm
                    | exact congrArg (Value.int .i64) (rt_zero (by assumption) (by simp_all) (by simp_all)).symm
              · refine W_seq ?_
                refine W_region ?_
                refine L_r (r_eqls rfl rfl) ?_
                refine L_r (r_ab rfl) ?_
                refine L_nil ?_
                refine W_if rfl (fun h10 => ?_) (fun h10 => ?_)
                · refine W_skip ?_
                  refine W_if rfl (fun h10 => ?_) (fun h10 => ?_)
                  · refine W_seq ?_
                    refine W_region ?_
                    refine L_r (r_ai rfl) ?_
                    refine L_nil ?_
                    refine W_ret ?_
                    refine ret1 (v := .int _ _) rfl rfl ?_
                    refine ⟨?_, Ch.au⟩
                    first
                    | contradiction
                    | exact congrArg (Value.int .i64) (num_takes s (by simp_all)).symm
                    | exact congrArg (Value.int .i64) (txt_takes s (by simp_all)).symm
                    | exact congrArg (Value.int .i64) (rt_none (by assumption)).symm
                    | exact congrArg (Value.int .i64) (rt_zero (by assumption) (by simp_all) (by simp_all)).symm
                  · refine W_skip ?_
                    refine W_seq ?_
                    refine W_seq ?_
                    refine W_region ?_
                    refine L_r (r_ms rfl) ?_
                    refine L_call (.plain rfl) rfl rfl (r_call Tryz.func23 rfl rfl rfl (by rfl)) (rnumber_walk s _) ?_
                    rintro v20 w27 ⟨rfl, c27⟩
                    have hz27 := c27.size
                    refine L_r (r_lss rfl rfl) ?_
                    refine L_nil ?_
                    refine W_if rfl (fun h21 => ?_) (fun h21 => ?_)
                    · refine W_seq ?_
                      refine W_region ?_
                      refine L_r (r_ai rfl) ?_
                      refine L_nil ?_
                      refine W_ret ?_
                      refine ret1 (v := .int _ _) rfl rfl ?_
                      refine ⟨?_, Ch.au⟩
                      first
                      | contradiction
                      | exact congrArg (Value.int .i64) (num_takes s (by simp_all)).symm
                      | exact congrArg (Value.int .i64) (txt_takes s (by simp_all)).symm
                      | exact congrArg (Value.int .i64) (rt_none (by assumption)).symm
                      | exact congrArg (Value.int .i64) (rt_zero (by assumption) (by simp_all) (by simp_all)).symm
                    · refine W_skip ?_
                      refine W_seq ?_
                      refine W_region ?_
                      refine L_r (r_ai rfl) ?_
                      refine L_nil ?_
                      refine W_ret ?_
                      refine ret1 (v := .int _ _) rfl rfl ?_
                      refine ⟨?_, Ch.au⟩
                      first
                      | contradiction
                      | exact congrArg (Value.int .i64) (num_takes s (by simp_all)).symm
                      | exact congrArg (Value.int .i64) (txt_takes s (by simp_all)).symm
                      | exact congrArg (Value.int .i64) (rt_none (by assumption)).symm
                      | exact congrArg (Value.int .i64) (rt_zero (by assumption) (by simp_all) (by simp_all)).symm
                · refine W_seq ?_
                  refine W_region ?_
                  refine L_r (r_eqls rfl rfl) ?_
                  refine L_r (r_ab rfl) ?_
                  refine L_nil ?_
                  refine W_if rfl (fun h10 => ?_) (fun h10 => ?_)
                  · refine W_skip ?_
                    refine W_if rfl (fun h10 => ?_) (fun h10 => ?_)
                    · refine W_seq ?_
                      refine W_region ?_
                      refine L_r (r_ai rfl) ?_
                      refine L_nil ?_
                      refine W_ret ?_
                      refine ret1 (v := .int _ _) rfl rfl ?_
                      refine ⟨?_, Ch.au⟩
                      first
                      | contradiction
                      | exact congrArg (Value.int .i64) (num_takes s (by simp_all)).symm
                      | exact congrArg (Value.int .i64) (txt_takes s (by simp_all)).symm
                      | exact congrArg (Value.int .i64) (rt_none (by assumption)).symm
                      | exact congrArg (Value.int .i64) (rt_zero (by assumption) (by simp_all) (by simp_all)).symm
                    · refine W_skip ?_
                      refine W_seq ?_
                      refine W_seq ?_
                      refine W_region ?_
                      refine L_r (r_ms rfl) ?_
                      refine L_call (.plain rfl) rfl rfl (r_call Tryz.func23 rfl rfl rfl (by rfl)) (rnumber_walk s _) ?_
                      rintro v20 w28 ⟨rfl, c28⟩
                      have hz28 := c28.size
                      refine L_r (r_lss rfl rfl) ?_
                      refine L_nil ?_
                      refine W_if rfl (fun h21 => ?_) (fun h21 => ?_)
                      · refine W_seq ?_
                        refine W_region ?_
                        refine L_r (r_ai rfl) ?_
                        refine L_nil ?_
                        refine W_ret ?_
                        refine ret1 (v := .int _ _) rfl rfl ?_
                        refine ⟨?_, Ch.au⟩
                        first
                        | contradiction
                        | exact congrArg (Value.int .i64) (num_takes s (by simp_all)).symm
                        | exact congrArg (Value.int .i64) (txt_takes s (by simp_all)).symm
                        | exact congrArg (Value.int .i64) (rt_none (by assumption)).symm
                        | exact congrArg (Value.int .i64) (rt_zero (by assumption) (by simp_all) (by simp_all)).symm
                      · refine W_skip ?_
                        refine W_seq ?_
                        refine W_region ?_
                        refine L_r (r_ai rfl) ?_
                        refine L_nil ?_
                        refine W_ret ?_
                        refine ret1 (v := .int _ _) rfl rfl ?_
                        refine ⟨?_, Ch.au⟩
                        first
                        | contradiction
                        | exact congrArg (Value.int .i64) (num_takes s (by simp_all)).symm
                        | exact congrArg (Value.int .i64) (txt_takes s (by simp_all)).symm
                        | exact congrArg (Value.int .i64) (rt_none (by assumption)).symm
                        | exact congrArg (Value.int .i64) (rt_zero (by assumption) (by simp_all) (by simp_all)).symm
                  · refine W_seq ?_
                    refine W_region ?_
                    refine L_r (r_eqls rfl rfl) ?_
                    refine L_r (r_ab rfl) ?_
                    refine L_nil ?_
                    refine W_if rfl (fun h10 => ?_) (fun h10 => ?_)
                    · refine W_skip ?_
                      refine W_if rfl (fun h10 => ?_) (fun h10 => ?_)
                      · refine W_seq ?_
                        refine W_region ?_
                        refine L_r (r_ai rfl) ?_
                        refine L_nil ?_
                        refine W_ret ?_
                        refine ret1 (v := .int _ _) rfl rfl ?_
                        refine ⟨?_, Ch.au⟩
                        first
                        | contradiction
                        | exact congrArg (Value.int .i64) (num_takes s (by simp_all)).symm
                        | exact congrArg (Value.int .i64) (txt_takes s (by simp_all)).symm
                        | exact congrArg (Value.int .i64) (rt_none (by assumption)).symm
                        | exact congrArg (Value.int .i64) (rt_zero (by assumption) (by simp_all) (by simp_all)).symm
                      · refine W_skip ?_
                        refine W_seq ?_
                        refine W_seq ?_
                        refine W_region ?_
                        refine L_r (r_ms rfl) ?_
                        refine L_call (.plain rfl) rfl rfl (r_call Tryz.func23 rfl rfl rfl (by rfl)) (rnumber_walk s _) ?_
                        rintro v20 w29 ⟨rfl, c29⟩
                        have hz29 := c29.size
                        refine L_r (r_lss rfl rfl) ?_
                        refine L_nil ?_
                        refine W_if rfl (fun h21 => ?_) (fun h21 => ?_)
                        · refine W_seq ?_
                          refine W_region ?_
                          refine L_r (r_ai rfl) ?_
                          refine L_nil ?_
                          refine W_ret ?_
                          refine ret1 (v := .int _ _) rfl rfl ?_
                          refine ⟨?_, Ch.au⟩
                          first
                          | contradiction
                          | exact congrArg (Value.int .i64) (num_takes s (by simp_all)).symm
                          | exact congrArg (Value.int .i64) (txt_takes s (by simp_all)).symm
                          | exact congrArg (Value.int .i64) (rt_none (by assumption)).symm
                          | exact congrArg (Value.int .i64) (rt_zero (by assumption) (by simp_all) (by simp_all)).symm
                        · refine W_skip ?_
                          refine W_seq ?_
                          refine W_region ?_
                          refine L_r (r_ai rfl) ?_
                          refine L_nil ?_
                          refine W_ret ?_
                          refine ret1 (v := .int _ _) rfl rfl ?_
                          refine ⟨?_, Ch.au⟩
                          first
                          | contradiction
                          | exact congrArg (Value.int .i64) (num_takes s (by simp_all)).symm
                          | exact congrArg (Value.int .i64) (txt_takes s (by simp_all)).symm
                          | exact congrArg (Value.int .i64) (rt_none (by assumption)).symm
                          | exact congrArg (Value.int .i64) (rt_zero (by assumption) (by simp_all) (by simp_all)).symm
                    · refine W_seq ?_
                      refine W_region ?_
                      refine L_r (r_eqls rfl rfl) ?_
                      refine L_r (r_ab rfl) ?_
                      refine L_nil ?_
                      refine W_if rfl (fun h10 => ?_) (fun h10 => ?_)
                      · refine W_skip ?_
                        refine W_if rfl (fun h10 => ?_) (fun h10 => ?_)
                        · refine W_seq ?_
                          refine W_region ?_
                          refine L_r (r_ai rfl) ?_
                          refine L_nil ?_
                          refine W_ret ?_
                          refine ret1 (v := .int _ _) rfl rfl ?_
                          refine ⟨?_, Ch.au⟩
                          first
                          | contradiction
                          | exact congrArg (Value.int .i64) (num_takes s (by simp_all)).symm
                          | exact congrArg (Value.int .i64) (txt_takes s (by simp_all)).symm
                          | exact congrArg (Value.int .i64) (rt_none (by assumption)).symm
                          | exact congrArg (Value.int .i64) (rt_zero (by assumption) (by simp_all) (by simp_all)).symm
                        · refine W_skip ?_
                          refine W_seq ?_
                          refine W_seq ?_
                          refine W_region ?_
                          refine L_r (r_ms rfl) ?_
                          refine L_call (.plain rfl) rfl rfl (r_call Tryz.func23 rfl rfl rfl (by rfl)) (rnumber_walk s _) ?_
                          rintro v20 w30 ⟨rfl, c30⟩
                          have hz30 := c30.size
                          refine L_r (r_lss rfl rfl) ?_
                          refine L_nil ?_
                          refine W_if rfl (fun h21 => ?_) (fun h21 => ?_)
                          · refine W_seq ?_
                            refine W_region ?_
                            refine L_r (r_ai rfl) ?_
                            refine L_nil ?_
                            refine W_ret ?_
                            refine ret1 (v := .int _ _) rfl rfl ?_
                            refine ⟨?_, Ch.au⟩
                            first
                            | contradiction
                            | exact congrArg (Value.int .i64) (num_takes s (by simp_all)).symm
                            | exact congrArg (Value.int .i64) (txt_takes s (by simp_all)).symm
                            | exact congrArg (Value.int .i64) (rt_none (by assumption)).symm
                            | exact congrArg (Value.int .i64) (rt_zero (by assumption) (by simp_all) (by simp_all)).symm
                          · refine W_skip ?_
                            refine W_seq ?_
                            refine W_region ?_
                            refine L_r (r_ai rfl) ?_
                            refine L_nil ?_
                            refine W_ret ?_
                            refine ret1 (v := .int _ _) rfl rfl ?_
                            refine ⟨?_, Ch.au⟩
                            first
                            | contradiction
                            | exact congrArg (Value.int .i64) (num_takes s (by simp_all)).symm
                            | exact congrArg (Value.int .i64) (txt_takes s (by simp_all)).symm
                            | exact congrArg (Value.int .i64) (rt_none (by assumption)).symm
                            | exact congrArg (Value.int .i64) (rt_zero (by assumption) (by simp_all) (by simp_all)).symm
                      · refine W_seq ?_
                        refine W_region ?_
                        refine L_r (r_eqls rfl rfl) ?_
                        refine L_r (r_ab rfl) ?_
                        refine L_nil ?_
                        refine W_if rfl (fun h10 => ?_) (fun h10 => ?_)
                        · refine W_skip ?_
                          refine W_if rfl (fun h10 => ?_) (fun h10 => ?_)
                          · refine W_seq ?_
                            refine W_region ?_
                            refine L_r (r_ai rfl) ?_
                            refine L_nil ?_
                            refine W_ret ?_
                            refine ret1 (v := .int _ _) rfl rfl ?_
                            refine ⟨?_, Ch.au⟩
                            first
                            | contradiction
                            | exact congrArg (Value.int .i64) (num_takes s (by simp_all)).symm
                            | exact congrArg (Value.int .i64) (txt_takes s (by simp_all)).symm
                            | exact congrArg (Value.int .i64) (rt_none (by assumption)).symm
                            | exact congrArg (Value.int .i64) (rt_zero (by assumption) (by simp_all) (by simp_all)).symm
                          · refine W_skip ?_
                            refine W_seq ?_
                            refine W_seq ?_
                            refine W_region ?_
                            refine L_r (r_ms rfl) ?_
                            refine L_call (.plain rfl) rfl rfl (r_call Tryz.func23 rfl rfl rfl (by rfl)) (rnumber_walk s _) ?_
                            rintro v20 w31 ⟨rfl, c31⟩
                            have hz31 := c31.size
                            refine L_r (r_lss rfl rfl) ?_
                            refine L_nil ?_
                            refine W_if rfl (fun h21 => ?_) (fun h21 => ?_)
                            · refine W_seq ?_
                              refine W_region ?_
                              refine L_r (r_ai rfl) ?_
                              refine L_nil ?_
                              refine W_ret ?_
                              refine ret1 (v := .int _ _) rfl rfl ?_
                              refine ⟨?_, Ch.au⟩
                              first
                              | contradiction
                              | exact congrArg (Value.int .i64) (num_takes s (by simp_all)).symm
                              | exact congrArg (Value.int .i64) (txt_takes s (by simp_all)).symm
                              | exact congrArg (Value.int .i64) (rt_none (by assumption)).symm
                              | exact congrArg (Value.int .i64) (rt_zero (by assumption) (by simp_all) (by simp_all)).symm
                            · refine W_skip ?_
                              refine W_seq ?_
                              refine W_region ?_
                              refine L_r (r_ai rfl) ?_
                              refine L_nil ?_
                              refine W_ret ?_
                              refine ret1 (v := .int _ _) rfl rfl ?_
                              refine ⟨?_, Ch.au⟩
                              first
                              | contradiction
                              | exact congrArg (Value.int .i64) (num_takes s (by simp_all)).symm
                              | exact congrArg (Value.int .i64) (txt_takes s (by simp_all)).symm
                              | exact congrArg (Value.int .i64) (rt_none (by assumption)).symm
                              | exact congrArg (Value.int .i64) (rt_zero (by assumption) (by simp_all) (by simp_all)).symm
                        · refine W_region ?_
                          refine L_r (r_eqls rfl rfl) ?_
                          refine L_r (r_ab rfl) ?_
                          refine L_nil ?_
                          refine W_if rfl (fun h10 => ?_) (fun h10 => ?_)
                          · refine W_seq ?_
                            refine W_region ?_
                            refine L_r (r_ai rfl) ?_
                            refine L_nil ?_
                            refine W_ret ?_
                            refine ret1 (v := .int _ _) rfl rfl ?_
                            refine ⟨?_, Ch.au⟩
                            first
                            | contradiction
                            | exact congrArg (Value.int .i64) (num_takes s (by simp_all)).symm
                            | exact congrArg (Value.int .i64) (txt_takes s (by simp_all)).symm
                            | exact congrArg (Value.int .i64) (rt_none (by assumption)).symm
                            | exact congrArg (Value.int .i64) (rt_zero (by assumption) (by simp_all) (by simp_all)).symm
                          · refine W_skip ?_
                            refine W_seq ?_
                            refine W_seq ?_
                            refine W_region ?_
                            refine L_r (r_ms rfl) ?_
                            refine L_call (.plain rfl) rfl rfl (r_call Tryz.func23 rfl rfl rfl (by rfl)) (rnumber_walk s _) ?_
                            rintro v20 w32 ⟨rfl, c32⟩
                            have hz32 := c32.size
                            refine L_r (r_lss rfl rfl) ?_
                            refine L_nil ?_
                            refine W_if rfl (fun h21 => ?_) (fun h21 => ?_)
                            · refine W_seq ?_
                              refine W_region ?_
                              refine L_r (r_ai rfl) ?_
                              refine L_nil ?_
                              refine W_ret ?_
                              refine ret1 (v := .int _ _) rfl rfl ?_
                              refine ⟨?_, Ch.au⟩
                              first
                              | contradiction
                              | exact congrArg (Value.int .i64) (num_takes s (by simp_all)).symm
                              | exact congrArg (Value.int .i64) (txt_takes s (by simp_all)).symm
                              | exact congrArg (Value.int .i64) (rt_none (by assumption)).symm
                              | exact congrArg (Value.int .i64) (rt_zero (by assumption) (by simp_all) (by simp_all)).symm
                            · refine W_skip ?_
                              refine W_seq ?_
                              refine W_region ?_
                              refine L_r (r_ai rfl) ?_
                              refine L_nil ?_
                              refine W_ret ?_
                              refine ret1 (v := .int _ _) rfl rfl ?_
                              refine ⟨?_, Ch.au⟩
                              first
                              | contradiction
                              | exact congrArg (Value.int .i64) (num_takes s (by simp_all)).symm
                              | exact congrArg (Value.int .i64) (txt_takes s (by simp_all)).symm
                              | exact congrArg (Value.int .i64) (rt_none (by assumption)).symm
                              | exact congrArg (Value.int .i64) (rt_zero (by assumption) (by simp_all) (by simp_all)).symm
        · refine W_region ?_
          refine L_r (r_eqls rfl rfl) ?_
          refine L_r (r_ab rfl) ?_
          refine L_nil ?_
          refine W_if rfl (fun h4 => ?_) (fun h4 => ?_)
          · refine W_seq ?_
            refine W_region ?_
            refine L_r (r_ai rfl) ?_
            refine L_nil ?_
            refine W_ret ?_
            refine ret1 (v := .int _ _) rfl rfl ?_
            refine ⟨?_, Ch.au⟩
            first
            | contradiction
            | exact congrArg (Value.int .i64) (num_takes s (by simp_all)).symm
            | exact congrArg (Value.int .i64) (txt_takes s (by simp_all)).symm
            | exact congrArg (Value.int .i64) (rt_none (by assumption)).symm
            | exact congrArg (Value.int .i64) (rt_zero (by assumption) (by simp_all) (by simp_all)).symm
          · refine W_seq ?_
            refine W_seq ?_
            refine W_region ?_
            refine L_r (r_eqls rfl rfl) ?_
            refine L_r (r_ab rfl) ?_
            refine L_nil ?_
            refine W_if rfl (fun h10 => ?_) (fun h10 => ?_)
            · refine W_skip ?_
              refine W_if rfl (fun h10 => ?_) (fun h10 => ?_)
              · refine W_seq ?_
                refine W_region ?_
                refine L_r (r_ai rfl) ?_
                refine L_nil ?_
                refine W_ret ?_
                refine ret1 (v := .int _ _) rfl rfl ?_
                refine ⟨?_, Ch.au⟩
                first
                | contradiction
                | exact congrArg (Value.int .i64) (num_takes s (by simp_all)).symm
                | exact congrArg (Value.int .i64) (txt_takes s (by simp_all)).symm
                | exact congrArg (Value.int .i64) (rt_none (by assumption)).symm
                | exact congrArg (Value.int .i64) (rt_zero (by assumption) (by simp_all) (by simp_all)).symm
              · refine W_skip ?_
                refine W_seq ?_
                refine W_seq ?_
                refine W_region ?_
                refine L_r (r_ms rfl) ?_
                refine L_call (.plain rfl) rfl rfl (r_call Tryz.func23 rfl rfl rfl (by rfl)) (rnumber_walk s _) ?_
                rintro v20 w33 ⟨rfl, c33⟩
                have hz33 := c33.size
                refine L_r (r_lss rfl rfl) ?_
                refine L_nil ?_
                refine W_if rfl (fun h21 => ?_) (fun h21 => ?_)
                · refine W_seq ?_
                  refine W_region ?_
                  refine L_r (r_ai rfl) ?_
                  refine L_nil ?_
                  refine W_ret ?_
                  refine ret1 (v := .int _ _) rfl rfl ?_
                  refine ⟨?_, Ch.au⟩
                  first
                  | contradiction
                  | exact congrArg (Value.int .i64) (num_takes s (by simp_all)).symm
                  | exact congrArg (Value.int .i64) (txt_takes s (by simp_all)).symm
                  | exact congrArg (Value.int .i64) (rt_none (by assumption)).symm
                  | exact congrArg (Value.int .i64) (rt_zero (by assumption) (by simp_all) (by simp_all)).symm
                · refine W_skip ?_
                  refine W_seq ?_
                  refine W_region ?_
                  refine L_r (r_ai rfl) ?_
                  refine L_nil ?_
                  refine W_ret ?_
                  refine ret1 (v := .int _ _) rfl rfl ?_
                  refine ⟨?_, Ch.au⟩
                  first
                  | contradiction
                  | exact congrArg (Value.int .i64) (num_takes s (by simp_all)).symm
                  | exact congrArg (Value.int .i64) (txt_takes s (by simp_all)).symm
                  | exact congrArg (Value.int .i64) (rt_none (by assumption)).symm
                  | exact congrArg (Value.int .i64) (rt_zero (by assumption) (by simp_all) (by simp_all)).symm
            · refine W_seq ?_
              refine W_region ?_
              refine L_r (r_eqls rfl rfl) ?_
              refine L_r (r_ab rfl) ?_
              refine L_nil ?_
              refine W_if rfl (fun h10 => ?_) (fun h10 => ?_)
              · refine W_skip ?_
                refine W_if rfl (fun h10 => ?_) (fun h10 => ?_)
                · refine W_seq ?_
                  refine W_region ?_
                  refine L_r (r_ai rfl) ?_
                  refine L_nil ?_
                  refine W_ret ?_
                  refine ret1 (v := .int _ _) rfl rfl ?_
                  refine ⟨?_, Ch.au⟩
                  first
                  | contradiction
                  | exact congrArg (Value.int .i64) (num_takes s (by simp_all)).symm
                  | exact congrArg (Value.int .i64) (txt_takes s (by simp_all)).symm
                  | exact congrArg (Value.int .i64) (rt_none (by assumption)).symm
                  | exact congrArg (Value.int .i64) (rt_zero (by assumption) (by simp_all) (by simp_all)).symm
                · refine W_skip ?_
                  refine W_seq ?_
                  refine W_seq ?_
                  refine W_region ?_
                  refine L_r (r_ms rfl) ?_
                  refine L_call (.plain rfl) rfl rfl (r_call Tryz.func23 rfl rfl rfl (by rfl)) (rnumber_walk s _) ?_
                  rintro v20 w34 ⟨rfl, c34⟩
                  have hz34 := c34.size
                  refine L_r (r_lss rfl rfl) ?_
                  refine L_nil ?_
                  refine W_if rfl (fun h21 => ?_) (fun h21 => ?_)
                  · refine W_seq ?_
                    refine W_region ?_
                    refine L_r (r_ai rfl) ?_
                    refine L_nil ?_
                    refine W_ret ?_
                    refine ret1 (v := .int _ _) rfl rfl ?_
                    refine ⟨?_, Ch.au⟩
                    first
                    | contradiction
                    | exact congrArg (Value.int .i64) (num_takes s (by simp_all)).symm
                    | exact congrArg (Value.int .i64) (txt_takes s (by simp_all)).symm
                    | exact congrArg (Value.int .i64) (rt_none (by assumption)).symm
                    | exact congrArg (Value.int .i64) (rt_zero (by assumption) (by simp_all) (by simp_all)).symm
                  · refine W_skip ?_
                    refine W_seq ?_
                    refine W_region ?_
                    refine L_r (r_ai rfl) ?_
                    refine L_nil ?_
                    refine W_ret ?_
                    refine ret1 (v := .int _ _) rfl rfl ?_
                    refine ⟨?_, Ch.au⟩
                    first
                    | contradiction
                    | exact congrArg (Value.int .i64) (num_takes s (by simp_all)).symm
                    | exact congrArg (Value.int .i64) (txt_takes s (by simp_all)).symm
                    | exact congrArg (Value.int .i64) (rt_none (by assumption)).symm
                    | exact congrArg (Value.int .i64) (rt_zero (by assumption) (by simp_all) (by simp_all)).symm
              · refine W_seq ?_
                refine W_region ?_
                refine L_r (r_eqls rfl rfl) ?_
                refine L_r (r_ab rfl) ?_
                refine L_nil ?_
                refine W_if rfl (fun h10 => ?_) (fun h10 => ?_)
                · refine W_skip ?_
                  refine W_if rfl (fun h10 => ?_) (fun h10 => ?_)
                  · refine W_seq ?_
                    refine W_region ?_
                    refine L_r (r_ai rfl) ?_
                    refine L_nil ?_
                    refine W_ret ?_
                    refine ret1 (v := .int _ _) rfl rfl ?_
                    refine ⟨?_, Ch.au⟩
                    first
                    | contradiction
                    | exact congrArg (Value.int .i64) (num_takes s (by simp_all)).symm
                    | exact congrArg (Value.int .i64) (txt_takes s (by simp_all)).symm
                    | exact congrArg (Value.int .i64) (rt_none (by assumption)).symm
                    | exact congrArg (Value.int .i64) (rt_zero (by assumption) (by simp_all) (by simp_all)).symm
                  · refine W_skip ?_
                    refine W_seq ?_
                    refine W_seq ?_
                    refine W_region ?_
                    refine L_r (r_ms rfl) ?_
                    refine L_call (.plain rfl) rfl rfl (r_call Tryz.func23 rfl rfl rfl (by rfl)) (rnumber_walk s _) ?_
                    rintro v20 w35 ⟨rfl, c35⟩
                    have hz35 := c35.size
                    refine L_r (r_lss rfl rfl) ?_
                    refine L_nil ?_
                    refine W_if rfl (fun h21 => ?_) (fun h21 => ?_)
                    · refine W_seq ?_
                      refine W_region ?_
                      refine L_r (r_ai rfl) ?_
                      refine L_nil ?_
                      refine W_ret ?_
                      refine ret1 (v := .int _ _) rfl rfl ?_
                      refine ⟨?_, Ch.au⟩
                      first
                      | contradiction
                      | exact congrArg (Value.int .i64) (num_takes s (by simp_all)).symm
                      | exact congrArg (Value.int .i64) (txt_takes s (by simp_all)).symm
                      | exact congrArg (Value.int .i64) (rt_none (by assumption)).symm
                      | exact congrArg (Value.int .i64) (rt_zero (by assumption) (by simp_all) (by simp_all)).symm
                    · refine W_skip ?_
                      refine W_seq ?_
                      refine W_region ?_
                      refine L_r (r_ai rfl) ?_
                      refine L_nil ?_
                      refine W_ret ?_
                      refine ret1 (v := .int _ _) rfl rfl ?_
                      refine ⟨?_, Ch.au⟩
                      first
                      | contradiction
                      | exact congrArg (Value.int .i64) (num_takes s (by simp_all)).symm
                      | exact congrArg (Value.int .i64) (txt_takes s (by simp_all)).symm
                      | exact congrArg (Value.int .i64) (rt_none (by assumption)).symm
                      | exact congrArg (Value.int .i64) (rt_zero (by assumption) (by simp_all) (by simp_all)).symm
                · refine W_seq ?_
                  refine W_region ?_
                  refine L_r (r_eqls rfl rfl) ?_
                  refine L_r (r_ab rfl) ?_
                  refine L_nil ?_
                  refine W_if rfl (fun h10 => ?_) (fun h10 => ?_)
                  · refine W_skip ?_
                    refine W_if rfl (fun h10 => ?_) (fun h10 => ?_)
                    · refine W_seq ?_
                      refine W_region ?_
                      refine L_r (r_ai rfl) ?_
                      refine L_nil ?_
                      refine W_ret ?_
                      refine ret1 (v := .int _ _) rfl rfl ?_
                      refine ⟨?_, Ch.au⟩
                      first
                      | contradiction
                      | exact congrArg (Value.int .i64) (num_takes s (by simp_all)).symm
                      | exact congrArg (Value.int .i64) (txt_takes s (by simp_all)).symm
                      | exact congrArg (Value.int .i64) (rt_none (by assumption)).symm
                      | exact congrArg (Value.int .i64) (rt_zero (by assumption) (by simp_all) (by simp_all)).symm
                    · refine W_skip ?_
                      refine W_seq ?_
                      refine W_seq ?_
                      refine W_region ?_
                      refine L_r (r_ms rfl) ?_
                      refine L_call (.plain rfl) rfl rfl (r_call Tryz.func23 rfl rfl rfl (by rfl)) (rnumber_walk s _) ?_
                      rintro v20 w36 ⟨rfl, c36⟩
                      have hz36 := c36.size
                      refine L_r (r_lss rfl rfl) ?_
                      refine L_nil ?_
                      refine W_if rfl (fun h21 => ?_) (fun h21 => ?_)
                      · refine W_seq ?_
                        refine W_region ?_
                        refine L_r (r_ai rfl) ?_
                        refine L_nil ?_
                        refine W_ret ?_
                        refine ret1 (v := .int _ _) rfl rfl ?_
                        refine ⟨?_, Ch.au⟩
                        first
                        | contradiction
                        | exact congrArg (Value.int .i64) (num_takes s (by simp_all)).symm
                        | exact congrArg (Value.int .i64) (txt_takes s (by simp_all)).symm
                        | exact congrArg (Value.int .i64) (rt_none (by assumption)).symm
                        | exact congrArg (Value.int .i64) (rt_zero (by assumption) (by simp_all) (by simp_all)).symm
                      · refine W_skip ?_
                        refine W_seq ?_
                        refine W_region ?_
                        refine L_r (r_ai rfl) ?_
                        refine L_nil ?_
                        refine W_ret ?_
                        refine ret1 (v := .int _ _) rfl rfl ?_
                        refine ⟨?_, Ch.au⟩
                        first
                        | contradiction
                        | exact congrArg (Value.int .i64) (num_takes s (by simp_all)).symm
                        | exact congrArg (Value.int .i64) (txt_takes s (by simp_all)).symm
                        | exact congrArg (Value.int .i64) (rt_none (by assumption)).symm
                        | exact congrArg (Value.int .i64) (rt_zero (by assumption) (by simp_all) (by simp_all)).symm
                  · refine W_seq ?_
                    refine W_region ?_
                    refine L_r (r_eqls rfl rfl) ?_
                    refine L_r (r_ab rfl) ?_
                    refine L_nil ?_
                    refine W_if rfl (fun h10 => ?_) (fun h10 => ?_)
                    · refine W_skip ?_
                      refine W_if rfl (fun h10 => ?_) (fun h10 => ?_)
                      · refine W_seq ?_
                        refine W_region ?_
                        refine L_r (r_ai rfl) ?_
                        refine L_nil ?_
                        refine W_ret ?_
                        refine ret1 (v := .int _ _) rfl rfl ?_
                        refine ⟨?_, Ch.au⟩
                        first
                        | contradiction
                        | exact congrArg (Value.int .i64) (num_takes s (by simp_all)).symm
                        | exact congrArg (Value.int .i64) (txt_takes s (by simp_all)).symm
                        | exact congrArg (Value.int .i64) (rt_none (by assumption)).symm
                        | exact congrArg (Value.int .i64) (rt_zero (by assumption) (by simp_all) (by simp_all)).symm
                      · refine W_skip ?_
                        refine W_seq ?_
                        refine W_seq ?_
                        refine W_region ?_
                        refine L_r (r_ms rfl) ?_
                        refine L_call (.plain rfl) rfl rfl (r_call Tryz.func23 rfl rfl rfl (by rfl)) (rnumber_walk s _) ?_
                        rintro v20 w37 ⟨rfl, c37⟩
                        have hz37 := c37.size
                        refine L_r (r_lss rfl rfl) ?_
                        refine L_nil ?_
                        refine W_if rfl (fun h21 => ?_) (fun h21 => ?_)
                        · refine W_seq ?_
                          refine W_region ?_
                          refine L_r (r_ai rfl) ?_
                          refine L_nil ?_
                          refine W_ret ?_
                          refine ret1 (v := .int _ _) rfl rfl ?_
                          refine ⟨?_, Ch.au⟩
                          first
                          | contradiction
                          | exact congrArg (Value.int .i64) (num_takes s (by simp_all)).symm
                          | exact congrArg (Value.int .i64) (txt_takes s (by simp_all)).symm
                          | exact congrArg (Value.int .i64) (rt_none (by assumption)).symm
                          | exact congrArg (Value.int .i64) (rt_zero (by assumption) (by simp_all) (by simp_all)).symm
                        · refine W_skip ?_
                          refine W_seq ?_
                          refine W_region ?_
                          refine L_r (r_ai rfl) ?_
                          refine L_nil ?_
                          refine W_ret ?_
                          refine ret1 (v := .int _ _) rfl rfl ?_
                          refine ⟨?_, Ch.au⟩
                          first
                          | contradiction
                          | exact congrArg (Value.int .i64) (num_takes s (by simp_all)).symm
                          | exact congrArg (Value.int .i64) (txt_takes s (by simp_all)).symm
                          | exact congrArg (Value.int .i64) (rt_none (by assumption)).symm
                          | exact congrArg (Value.int .i64) (rt_zero (by assumption) (by simp_all) (by simp_all)).symm
                    · refine W_seq ?_
                      refine W_region ?_
                      refine L_r (r_eqls rfl rfl) ?_
                      refine L_r (r_ab rfl) ?_
                      refine L_nil ?_
                      refine W_if rfl (fun h10 => ?_) (fun h10 => ?_)
                      · refine W_skip ?_
                        refine W_if rfl (fun h10 => ?_) (fun h10 => ?_)
                        · refine W_seq ?_
                          refine W_region ?_
                          refine L_r (r_ai rfl) ?_
                          refine L_nil ?_
                          refine W_ret ?_
                          refine ret1 (v := .int _ _) rfl rfl ?_
                          refine ⟨?_, Ch.au⟩
                          first
                          | contradiction
                          | exact congrArg (Value.int .i64) (num_takes s (by simp_all)).symm
                          | exact congrArg (Value.int .i64) (txt_takes s (by simp_all)).symm
                          | exact congrArg (Value.int .i64) (rt_none (by assumption)).symm
                          | exact congrArg (Value.int .i64) (rt_zero (by assumption) (by simp_all) (by simp_all)).symm
                        · refine W_skip ?_
                          refine W_seq ?_
                          refine W_seq ?_
                          refine W_region ?_
                          refine L_r (r_ms rfl) ?_
                          refine L_call (.plain rfl) rfl rfl (r_call Tryz.func23 rfl rfl rfl (by rfl)) (rnumber_walk s _) ?_
                          rintro v20 w38 ⟨rfl, c38⟩
                          have hz38 := c38.size
                          refine L_r (r_lss rfl rfl) ?_
                          refine L_nil ?_
                          refine W_if rfl (fun h21 => ?_) (fun h21 => ?_)
                          · refine W_seq ?_
                            refine W_region ?_
                            refine L_r (r_ai rfl) ?_
                            refine L_nil ?_
                            refine W_ret ?_
                            refine ret1 (v := .int _ _) rfl rfl ?_
                            refine ⟨?_, Ch.au⟩
                            first
                            | contradiction
                            | exact congrArg (Value.int .i64) (num_takes s (by simp_all)).symm
                            | exact congrArg (Value.int .i64) (txt_takes s (by simp_all)).symm
                            | exact congrArg (Value.int .i64) (rt_none (by assumption)).symm
                            | exact congrArg (Value.int .i64) (rt_zero (by assumption) (by simp_all) (by simp_all)).symm
                          · refine W_skip ?_
                            refine W_seq ?_
                            refine W_region ?_
                            refine L_r (r_ai rfl) ?_
                            refine L_nil ?_
                            refine W_ret ?_
                            refine ret1 (v := .int _ _) rfl rfl ?_
                            refine ⟨?_, Ch.au⟩
                            first
                            | contradiction
                            | exact congrArg (Value.int .i64) (num_takes s (by simp_all)).symm
                            | exact congrArg (Value.int .i64) (txt_takes s (by simp_all)).symm
                            | exact congrArg (Value.int .i64) (rt_none (by assumption)).symm
                            | exact congrArg (Value.int .i64) (rt_zero (by assumption) (by simp_all) (by simp_all)).symm
                      · refine W_seq ?_
                        refine W_region ?_
                        refine L_r (r_eqls rfl rfl) ?_
                        refine L_r (r_ab rfl) ?_
                        refine L_nil ?_
                        refine W_if rfl (fun h10 => ?_) (fun h10 => ?_)
                        · refine W_skip ?_
                          refine W_if rfl (fun h10 => ?_) (fun h10 => ?_)
                          · refine W_seq ?_
                            refine W_region ?_
                            refine L_r (r_ai rfl) ?_
                            refine L_nil ?_
                            refine W_ret ?_
                            refine ret1 (v := .int _ _) rfl rfl ?_
                            refine ⟨?_, Ch.au⟩
                            first
                            | contradiction
                            | exact congrArg (Value.int .i64) (num_takes s (by simp_all)).symm
                            | exact congrArg (Value.int .i64) (txt_takes s (by simp_all)).symm
                            | exact congrArg (Value.int .i64) (rt_none (by assumption)).symm
                            | exact congrArg (Value.int .i64) (rt_zero (by assumption) (by simp_all) (by simp_all)).symm
                          · refine W_skip ?_
                            refine W_seq ?_
                            refine W_seq ?_
                            refine W_region ?_
                            refine L_r (r_ms rfl) ?_
                            refine L_call (.plain rfl) rfl rfl (r_call Tryz.func23 rfl rfl rfl (by rfl)) (rnumber_walk s _) ?_
                            rintro v20 w39 ⟨rfl, c39⟩
                            have hz39 := c39.size
                            refine L_r (r_lss rfl rfl) ?_
                            refine L_nil ?_
                            refine W_if rfl (fun h21 => ?_) (fun h21 => ?_)
                            · refine W_seq ?_
                              refine W_region ?_
                              refine L_r (r_ai rfl) ?_
                              refine L_nil ?_
                              refine W_ret ?_
                              refine ret1 (v := .int _ _) rfl rfl ?_
                              refine ⟨?_, Ch.au⟩
                              first
                              | contradiction
                              | exact congrArg (Value.int .i64) (num_takes s (by simp_all)).symm
                              | exact congrArg (Value.int .i64) (txt_takes s (by simp_all)).symm
                              | exact congrArg (Value.int .i64) (rt_none (by assumption)).symm
                              | exact congrArg (Value.int .i64) (rt_zero (by assumption) (by simp_all) (by simp_all)).symm
                            · refine W_skip ?_
                              refine W_seq ?_
                              refine W_region ?_
                              refine L_r (r_ai rfl) ?_
                              refine L_nil ?_
                              refine W_ret ?_
                              refine ret1 (v := .int _ _) rfl rfl ?_
                              refine ⟨?_, Ch.au⟩
                              first
                              | contradiction
                              | exact congrArg (Value.int .i64) (num_takes s (by simp_all)).symm
                              | exact congrArg (Value.int .i64) (txt_takes s (by simp_all)).symm
                              | exact congrArg (Value.int .i64) (rt_none (by assumption)).symm
                              | exact congrArg (Value.int .i64) (rt_zero (by assumption) (by simp_all) (by simp_all)).symm
                        · refine W_region ?_
                          refine L_r (r_eqls rfl rfl) ?_
                          refine L_r (r_ab rfl) ?_
                          refine L_nil ?_
                          refine W_if rfl (fun h10 => ?_) (fun h10 => ?_)
                          · refine W_seq ?_
                            refine W_region ?_
                            refine L_r (r_ai rfl) ?_
                            refine L_nil ?_
                            refine W_ret ?_
                            refine ret1 (v := .int _ _) rfl rfl ?_
                            refine ⟨?_, Ch.au⟩
                            first
                            | contradiction
                            | exact congrArg (Value.int .i64) (num_takes s (by simp_all)).symm
                            | exact congrArg (Value.int .i64) (txt_takes s (by simp_all)).symm
                            | exact congrArg (Value.int .i64) (rt_none (by assumption)).symm
                            | exact congrArg (Value.int .i64) (rt_zero (by assumption) (by simp_all) (by simp_all)).symm
                          · refine W_skip ?_
                            refine W_seq ?_
                            refine W_seq ?_
                            refine W_region ?_
                            refine L_r (r_ms rfl) ?_
                            refine L_call (.plain rfl) rfl rfl (r_call Tryz.func23 rfl rfl rfl (by rfl)) (rnumber_walk s _) ?_
                            rintro v20 w40 ⟨rfl, c40⟩
                            have hz40 := c40.size
                            refine L_r (r_lss rfl rfl) ?_
                            refine L_nil ?_
                            refine W_if rfl (fun h21 => ?_) (fun h21 => ?_)
                            · refine W_seq ?_
                              refine W_region ?_
                              refine L_r (r_ai rfl) ?_
                              refine L_nil ?_
                              refine W_ret ?_
                              refine ret1 (v := .int _ _) rfl rfl ?_
                              refine ⟨?_, Ch.au⟩
                              first
                              | contradiction
                              | exact congrArg (Value.int .i64) (num_takes s (by simp_all)).symm
                              | exact congrArg (Value.int .i64) (txt_takes s (by simp_all)).symm
                              | exact congrArg (Value.int .i64) (rt_none (by assumption)).symm
                              | exact congrArg (Value.int .i64) (rt_zero (by assumption) (by simp_all) (by simp_all)).symm
                            · refine W_skip ?_
                              refine W_seq ?_
                              refine W_region ?_
                              refine L_r (r_ai rfl) ?_
                              refine L_nil ?_
                              refine W_ret ?_
                              refine ret1 (v := .int _ _) rfl rfl ?_
                              refine ⟨?_, Ch.au⟩
                              first
                              | contradiction
                              | exact congrArg (Value.int .i64) (num_takes s (by simp_all)).symm
                              | exact congrArg (Value.int .i64) (txt_takes s (by simp_all)).symm
                              | exact congrArg (Value.int .i64) (rt_none (by assumption)).symm
                              | exact congrArg (Value.int .i64) (rt_zero (by assumption) (by simp_all) (by simp_all)).symm
end Go.Proofs.YtioonbfinnigpaaGreatDoor

