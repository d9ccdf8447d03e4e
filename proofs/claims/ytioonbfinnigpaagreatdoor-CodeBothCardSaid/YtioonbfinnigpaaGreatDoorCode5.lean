/- Instructions as bytes; walked. -/
import Derived.Test.YtioonbfinnigpaaGreatDoorCode4
import Derived.Test.YtioonbfinnigpaaGreatDoorPackE
import Derived.Test.YtioonbfinnigpaaGreatDoorPackP
namespace Go.Proofs.YtioonbfinnigpaaGreatDoor
open Go Go.RowKit
set_option linter.unusedVariables false
set_option linter.unusedSimpArgs false
set_option maxRecDepth 100000
theorem check_op {x : Ins} (h : checkI x = 0) : ∃ k, opIx x.op = some k := by
  cases hk : opIx x.op with
  | some k => exact ⟨k, rfl⟩
  | none =>
    have e : takesF x.op = (false, false, false) := by unfold takesF; rw [hk]
    unfold checkI checkT at h
    rw [e] at h
    exact absurd h (by simp)
theorem all_ok : ∀ {z : List Ins}, allI z = 0 → ∀ x ∈ z, checkI x = 0
  | [], _, x, hx => by simp at hx
  | y :: z, h, x, hx => by
    unfold allI at h
    by_cases hy : checkI y ≠ 0
    · rw [if_pos hy] at h; exact absurd h hy
    · rw [if_neg hy] at h
      rcases List.mem_cons.1 hx with rfl | hx
      · exact Classical.not_not.1 hy
      · exact all_ok h x hx
def insT (k : Nat) (o : ByteArray × Bool × Bool) (x : Ins) : List UInt8 := varL k ++ ((if o.2.1 then varL (zigI x.n).toNat else []) ++ (if o.2.2 then textL x.s else []))
def insB (x : Ins) : List UInt8 := match opIx x.op with
  | some k => insT k (opT.getD k default) x
  | none => []
def putL (z : List Ins) : List UInt8 := varL z.length ++ z.flatMap insB
theorem zig_le {n : Int} (h : -9223372036854775808 ≤ n ∧ n ≤ 9223372036854775807) : (zigI n).toNat ≤ 18446744073709551615 := by
  unfold zigI; split <;> omega
theorem insT_len {k : Nat} {o : ByteArray × Bool × Bool} {x : Ins} (hk : k < 42) (hn : -9223372036854775808 ≤ x.n ∧ x.n ≤ 9223372036854775807) (hs : x.s.size ≤ 1000) : (insT k o x).length ≤ 1030 := by
  have h1 : (varL k).length ≤ 10 := varL_ten (by omega)
  have h2 : (varL (zigI x.n).toNat).length ≤ 10 := varL_ten (zig_le hn)
  have h3 : (varL x.s.size).length ≤ 10 := varL_ten (by omega)
  have h4 : (bs x.s).length = x.s.size := bs_length _
  unfold insT textL
  rw [List.length_append, List.length_append]
  have e1 : (if o.2.1 then varL (zigI x.n).toNat else []).length ≤ 10 := by split; exact h2; exact Nat.zero_le _
  have e2 : (if o.2.2 then varL x.s.size ++ bs x.s else []).length ≤ 1010 := by
    split
    · rw [List.length_append, h4]; omega
    · exact Nat.zero_le _
  omega
theorem put_len : ∀ (z : List Ins), (∀ x ∈ z, (-9223372036854775808 ≤ x.n ∧ x.n ≤ 9223372036854775807) ∧ x.s.size ≤ 1000) → (z.flatMap insB).length ≤ 1030 * z.length
  | [], _ => by simp
  | x :: z, h => by
    have ih := put_len z fun y hy => h y (List.mem_cons_of_mem _ hy)
    have hx := h x List.mem_cons_self
    have hb : (insB x).length ≤ 1030 := by
      unfold insB
      cases hk : opIx x.op with
      | none => exact Nat.zero_le _
      | some k => exact insT_len (opIx_lt hk) hx.1 hx.2
    rw [List.flatMap_cons, List.length_append, List.length_cons]; omega
theorem gv_ops {base : Nat} {w : World} (h : Gv base w) {k : Nat} (hk : k < 42) : ∀ (j : Nat) (u : Value), (opr (opT.getD k default))[j]? = some u → w.cell? ⟨0, k * 3 + j, none⟩ = some u := gv_row h hk
theorem put_take {z : List Ins} {i : Nat} (h : i < z.length) : (z.take (i + 1)).flatMap insB = (z.take i).flatMap insB ++ insB z[i] := by
  rw [List.take_succ_eq_append_getElem h, List.flatMap_append]; simp
theorem insB_of {x : Ins} {k : Nat} (h : opIx x.op = some k) : insB x = insT k (opT.getD k default) x := by unfold insB; rw [h]
theorem WrAt.down {base base' b : Nat} {w : World} {A : List UInt8} (h : WrAt base w b A) (hb : base' ≤ base) : WrAt base' w b A := by
  obtain ⟨v, h1, h2, h3⟩ := h
  exact ⟨v, h1, Nat.le_trans hb h2, h3.mono hb⟩
set_option maxHeartbeats 4000000 in
theorem iput_walk (base : Nat) (v : Value) (z : List Ins) (w0 : World) (hG : Gv base w0) (hb : base ≤ w0.heap.size) (hv : Sl w0 v 3 z.length (cellsI z)) (hl : z.length ≤ 300) (hs : ∀ x ∈ z, (-9223372036854775808 ≤ x.n ∧ x.n ≤ 9223372036854775807) ∧ x.s.size ≤ 1000) : Does Tryz.prog 16 #[v] w0 (fun r w' => ∃ v', r = .tuple #[v', .int .i64 (allI z)] ∧ (allI z ≠ 0 → v' = .slice none 0 0) ∧ (allI z = 0 → Ow w' w0.heap.size 5 1 v' (putL z).length ((putL z).map b8)) ∧ Nw w0 w') := by
  refine fn_of (n := 56) (args := [v]) Tryz.func16 rfl rfl rfl ?_
  refine W_seq ?_
  refine W_region ?_
  refine L_r (r_av) ?_
  refine L_r (r_ai rfl) ?_
  refine L_nil ?_
  refine W_seq ?_
  refine W_seq ?_
  refine W_region ?_
  refine L_r (r_mv) ?_
  refine L_call (.plain rfl) rfl rfl (r_call Tryz.func31 rfl rfl rfl (by rfl)) (all_ins_walk base v z _ (hG.nw Ch.au hb) (by omega) Sl.au (by omega) (fun x hx => by have := (hs x hx).2; omega)) ?_
  rintro v10 w1 ⟨rfl, c1⟩
  have hz1 := c1.size
  refine L_r (r_ai rfl) ?_
  refine L_nil ?_
  refine W_seq ?_
  refine W_region ?_
  refine L_r (r_mi rfl) ?_
  refine L_r (r_neq rfl rfl) ?_
  refine L_nil ?_
  refine W_if rfl (fun h12 => ?_) (fun h12 => ?_)
  · refine W_seq ?_
    refine W_region ?_
    refine L_r (r_mi rfl) ?_
    refine L_r (r_av) ?_
    refine L_r (r_ai rfl) ?_
    refine L_nil ?_
    refine W_ret ?_
    refine ret2 (v := .int _ _) rfl (by conv => lhs; whnf) rfl ?_
    first
    | exact ⟨_, rfl, fun _ => rfl, fun h => absurd h (by omega), Ch.au⟩
    | (have e0 : allI z = 0 := by omega
       rw [e0]
       exact ⟨_, rfl, fun h => absurd rfl h, fun _ => hvb.mono (by omega), Ch.au⟩)
  · have hok := all_ok (by omega : allI z = 0)
    refine W_skip ?_
    refine W_seq ?_
    refine W_region ?_
    refine L_call (.plain rfl) rfl rfl (r_call Tryz.func36 rfl rfl rfl (by rfl)) (write_walk _) ?_
    rintro v14 w2 ⟨bw, rfl, hW0, c2⟩
    have hz2 := c2.size
    refine L_r (r_ap rfl) ?_
    refine L_nil ?_
    refine W_seq ?_
    refine W_region ?_
    refine L_r (r_mp rfl) ?_
    refine L_r (r_mv) ?_
    refine L_r (r_lenSl Tryz.underlying22 (by conv => lhs; whnf) Sl.au) ?_
    refine L_r (r_conv Tryz.underlying3 Tryz.underlying23 rfl (by first | exact wr_u64 (by omega) | rfl)) ?_
    refine L_build1o [.int _ _] Tryz.underlying93 rfl rfl rfl (.plain rfl) rfl (by rfl) (by rfl) (by rfl) (fun v19 w3 ho19 eb3 hs3 c3 => ?_)
    refine L_call (.plain rfl) rfl rfl (r_call Tryz.func37 rfl rfl rfl (by rfl)) (wnum_walk w0.heap.size w0.heap.size bw [] _ [z.length] _ (WrAt.down (hW0.nw Ch.au) (by omega)) (Ow.mono (ow_lit ho19) (by omega)) (by intro x hx; rw [List.mem_singleton] at hx; omega) (by show 0 + 10 * 1 ≤ _; omega) (by omega)) ?_
    rintro v20 w4 ⟨rfl, hW1, c4⟩
    have hz4 := c4.size
    have hW1' : WrAt w0.heap.size w4 bw (varL z.length) := by { have h := hW1; simpa using h }
    refine L_nil ?_
    refine W_seq ?_
    refine W_seq ?_
    refine W_region ?_
    refine L_r (r_mv) ?_
    refine L_r (r_lenSl Tryz.underlying22 (by conv => lhs; whnf) Sl.au) ?_
    refine L_r (r_mi rfl) ?_
    refine L_nil ?_
    refine W_block ?_
    refine W_loopF [5, 21, 22] (fun mz_ f W => ∃ (i : Nat), f 23 = .int .i64 i ∧ (i ≤ z.length ∧ WrAt w0.heap.size W bw (varL z.length ++ (z.take i).flatMap insB) ∧ Nw w0 W) ∧ mz_ = z.length - i) ?_ ?_
    · refine ⟨_, 0, rfl, ?_, rfl⟩
      exact ⟨by omega, by simpa using hW1', Ch.au⟩
    rintro m0 g0 w5 ⟨i, hf23, hR0, rfl⟩
    refine W_as 23 hf23 rfl ?_
    clear hf23
    obtain ⟨hi, hW, hnw⟩ := hR0
    have hz := hnw.size
    refine W_seq ?_
    refine W_region ?_
    refine L_r (r_lss rfl rfl) ?_
    refine L_nil ?_
    refine W_seq ?_
    refine W_if rfl (fun h24 => ?_) (fun h24 => ?_)
    · have hil : i < z.length := by omega
      have hrow := cellsI_row z i hil
      have hsx := hs z[i] (List.getElem_mem _)
      obtain ⟨k, hk⟩ := check_op (hok z[i] (List.getElem_mem _))
      have hpt := put_take hil
      rw [insB_of hk] at hpt
      have hk42 := opIx_lt hk
      have hgo := fun W (c : Nw w0 W) => gv_ops (hG.nw c hb) hk42
      have hpl := put_len (z.take i) (fun x hx => hs x (List.mem_of_mem_take hx))
      rw [List.length_take] at hpl
      have hzl : (varL z.length).length ≤ 10 := varL_ten (by omega)
      obtain ⟨x, hx⟩ : ∃ x, x = z[i] := ⟨_, rfl⟩
      rw [← hx] at hrow hsx hk hpt
      generalize opT.getD k default = o at hgo hpt
      obtain ⟨A, hA⟩ : ∃ A, A = varL z.length ++ (z.take i).flatMap insB := ⟨_, rfl⟩
      have hAl : A.length ≤ 400000 := by rw [hA, List.length_append]; omega
      have hkl : (varL k).length ≤ 10 := varL_ten (by omega)
      rw [← hA] at hW
      refine W_skip ?_
      refine W_cutF [5, 21, 22, 23] (fun f W => True ∧ (i + 1 ≤ z.length ∧ WrAt w0.heap.size W bw (varL z.length ++ (z.take (i + 1)).flatMap insB) ∧ Nw w0 W)) ?_ ?_
      · refine W_block ?_
        refine W_seq ?_
        refine W_region ?_
        refine L_r (r_ix Tryz.underlying22 (show _ = some 3 from rfl) (by conv => lhs; whnf) rfl Sl.au) ?_
        refine L_r (r_loadSlrow (us := [.string x.op, .int .i64 x.n, .string x.s]) Tryz.underlying47 rfl rfl rfl rfl Sl.au (by exact hrow)) ?_
        refine L_new (.plain rfl) rfl rfl (r_alloca rfl) (fun w6 b7 hb7 eb6 hs6 c6 => ?_)
        refine L_storerow (.plain rfl) rfl rfl Bk.au (by first | rfl | (simp; done) | assumption) (by first | rfl | assumption) (by first | rfl | (simp [Value.oneCell']; done) | assumption) (fun w7 hb7 hs7 c7 => ?_)
        refine L_nil ?_
        refine W_seq ?_
        refine W_region ?_
        refine L_r (r_fieldb Tryz.underlying47 rfl (show _ = some 1 from rfl) rfl rfl (show _ = 0 from rfl)) ?_
        refine L_r (r_lb rfl rfl) ?_
        refine L_call (.plain rfl) rfl rfl (r_call Tryz.func38 rfl rfl rfl (by rfl)) (find_yes base x.op k _ hk (hG.nw Ch.au hb) (by omega)) ?_
        rintro v29 w8 ⟨rfl, c8⟩
        have hz8 := c8.size
        refine L_r (r_ai rfl) ?_
        refine L_nil ?_
        refine W_seq ?_
        refine W_region ?_
        refine L_r (r_mp rfl) ?_
        refine L_r (r_mi rfl) ?_
        refine L_r (r_conv Tryz.underlying3 Tryz.underlying23 rfl (by first | exact wr_u64 (by omega) | rfl)) ?_
        refine L_build1o [.int _ _] Tryz.underlying93 rfl rfl rfl (.plain rfl) rfl (by rfl) (by rfl) (by rfl) (fun v33 w9 ho33 eb9 hs9 c9 => ?_)
        refine L_call (.plain rfl) rfl rfl (r_call Tryz.func37 rfl rfl rfl (by rfl)) (wnum_walk w0.heap.size w0.heap.size bw A _ [k] _ (hW.nw Ch.au) (Ow.mono (ow_lit ho33) (by omega)) (by intro y hy; rw [List.mem_singleton] at hy; omega) (by show _ + 10 * 1 ≤ _; omega) (by omega)) ?_
        rintro v34 w10 ⟨rfl, hWk, c10⟩
        have hz10 := c10.size
        have hWa : WrAt w0.heap.size w10 bw (A ++ varL k) := by { have h := hWk; simpa using h }
        refine L_nil ?_
        refine W_seq ?_
        refine W_seq ?_
        refine W_region ?_
        refine L_r (r_mi rfl) ?_
        refine L_r (r_idxarr Tryz.underlying60 (show _ = some 3 from rfl) rfl rfl (by omega) (by omega) (by conv => lhs; (try simp only [Nat.mul_one, Nat.zero_add, Int.toNat_natCast, Int.toNat_zero, Int.reduceToNat, Nat.reduceMul, Nat.reduceAdd]))) ?_
        refine L_r (r_fieldb Tryz.underlying59 rfl (show _ = some 1 from rfl) rfl rfl rfl) ?_
        refine L_r (r_loadG rfl rfl (by first | exact hgo _ Ch.au 1 _ rfl | exact hgo _ Ch.au 2 _ rfl)) ?_
        refine L_nil ?_
        refine W_endF [5, 7, 8, 21, 22, 23] (fun f W => True ∧ (WrAt w0.heap.size W bw (A ++ varL k ++ (if o.2.1 then varL (zigI x.n).toNat else [])) ∧ Bk W b7 #[.string x.op, .int .i64 x.n, .string x.s] 47 ∧ Nw w0 W)) ?_ ?_
        · refine W_bool rfl (fun h38 => ?_) (fun h38 => ?_)
          · refine W_region ?_
            refine L_r (r_mp rfl) ?_
            refine L_r (r_fieldb Tryz.underlying47 rfl (show _ = some 1 from rfl) rfl rfl (show _ = 1 from rfl)) ?_
            refine L_r (r_lb rfl rfl) ?_
            refine L_build1o [.int _ _] Tryz.underlying98 rfl rfl rfl (.plain rfl) rfl (by rfl) (by rfl) (by rfl) (fun v42 w11 ho42 eb11 hs11 c11 => ?_)
            refine L_call (.plain rfl) rfl rfl (r_call Tryz.func39 rfl rfl rfl (by rfl)) (wint_walk w0.heap.size w0.heap.size bw (A ++ varL k) _ [x.n] _ (hWa.nw Ch.au) (Ow.mono (ow_lit ho42) (by omega)) (by intro y hy; rw [List.mem_singleton] at hy; rw [hy]; exact hsx.1) (by rw [List.length_append]; show _ + 10 * 1 ≤ _; omega) (by omega)) ?_
            rintro v43 w12 ⟨rfl, hWi, c12⟩
            have hz12 := c12.size
            refine L_nil ?_
            refine ⟨⟨fx2, fx2, fx2, fx2, fx2, fx2, trivial⟩, trivial, ?_⟩
            first
            | (rw [if_pos (by assumption)]; exact ⟨by have h := hWi; simpa using h, Bk.au, Ch.au⟩)
            | (rw [if_neg (by simpa using h38)]; exact ⟨by have h := hWa.nw (w' := w12) Ch.au; simpa using h, Bk.au, Ch.au⟩)
          · refine W_skip ?_
            refine ⟨⟨fx2, fx2, fx2, fx2, fx2, fx2, trivial⟩, trivial, ?_⟩
            first
            | (rw [if_pos (by assumption)]; exact ⟨by have h := hWi; simpa using h, Bk.au, Ch.au⟩)
            | (rw [if_neg (by simpa using h38)]; exact ⟨by have h := hWa.nw (w' := w10) Ch.au; simpa using h, Bk.au, Ch.au⟩)
        rintro gct38 w13 ⟨-, hCt38⟩
        obtain ⟨hW3, hb7', hnw3⟩ := hCt38
        have hz3 := hnw3.size
        obtain ⟨B, hB⟩ : ∃ B, B = A ++ varL k ++ (if o.2.1 then varL (zigI x.n).toNat else []) := ⟨_, rfl⟩
        have h2 : (varL (zigI x.n).toNat).length ≤ 10 := varL_ten (zig_le hsx.1)
        have hBl : B.length ≤ 500000 := by rw [hB, List.length_append, List.length_append]; have e1 : (if o.2.1 then varL (zigI x.n).toNat else []).length ≤ 10 := by { split; exact h2; exact Nat.zero_le _ }; omega
        rw [← hB] at hW3
        refine W_seq ?_
        refine W_region ?_
        refine L_r (r_mi rfl) ?_
        refine L_r (r_idxarr Tryz.underlying60 (show _ = some 3 from rfl) rfl rfl (by omega) (by omega) (by conv => lhs; (try simp only [Nat.mul_one, Nat.zero_add, Int.toNat_natCast, Int.toNat_zero, Int.reduceToNat, Nat.reduceMul, Nat.reduceAdd]))) ?_
        refine L_r (r_fieldb Tryz.underlying59 rfl (show _ = some 1 from rfl) rfl rfl rfl) ?_
        refine L_r (r_loadG rfl rfl (by first | exact hgo _ Ch.au 1 _ rfl | exact hgo _ Ch.au 2 _ rfl)) ?_
        refine L_nil ?_
        refine W_bool rfl (fun h47 => ?_) (fun h47 => ?_)
        · refine W_region ?_
          refine L_r (r_mp rfl) ?_
          refine L_r (r_fieldb Tryz.underlying47 rfl (show _ = some 1 from rfl) rfl rfl (show _ = 2 from rfl)) ?_
          refine L_r (r_lb rfl rfl) ?_
          refine L_build1o [.string _] Tryz.underlying49 rfl rfl rfl (.plain rfl) rfl (by rfl) (by rfl) (by rfl) (fun v51 w14 ho51 eb14 hs14 c14 => ?_)
          refine L_call (.plain rfl) rfl rfl (r_call Tryz.func40 rfl rfl rfl (by rfl)) (wtext_walk w0.heap.size w0.heap.size bw B _ [x.s] _ (hW3.nw Ch.au) (Ow.mono (ow_lit ho51) (by omega)) (by intro y hy; rw [List.mem_singleton] at hy; rw [hy]; have := hsx.2; omega) (by show 1 ≤ _; omega) (by omega) (by omega)) ?_
          rintro v52 w15 ⟨rfl, hWt, c15⟩
          have hz15 := c15.size
          refine L_nil ?_
          refine ⟨⟨fx2, fx2, fx2, fx2, trivial⟩, trivial, ?_⟩
          refine ⟨by omega, ?_, Ch.au⟩
          rw [hpt, ← List.append_assoc, ← hA]
          unfold insT
          first
          | (rw [if_pos (by assumption : o.2.2 = true)]; have h := hWt; rw [hB] at h; simpa using h)
          | (rw [if_neg (by simpa using h47 : ¬ o.2.2 = true)]; have h := hW3.nw (w' := w15) Ch.au; rw [hB] at h; simpa using h)
        · refine W_skip ?_
          refine ⟨⟨fx2, fx2, fx2, fx2, trivial⟩, trivial, ?_⟩
          refine ⟨by omega, ?_, Ch.au⟩
          rw [hpt, ← List.append_assoc, ← hA]
          unfold insT
          first
          | (rw [if_pos (by assumption : o.2.2 = true)]; have h := hWt; rw [hB] at h; simpa using h)
          | (rw [if_neg (by simpa using h47 : ¬ o.2.2 = true)]; have h := hW3.nw (w' := w13) Ch.au; rw [hB] at h; simpa using h)
      rintro gcb1 w16 ⟨-, hCb1⟩
      refine W_region ?_
      refine L_r (r_add rfl rfl (by first | exact wr_i64 (by omega) | rfl)) ?_
      refine L_r (r_mi rfl) ?_
      refine L_nil ?_
      refine ⟨⟨fx2, fx2, fx2, trivial⟩, _, ?_, i + 1, rfl, ?_, rfl⟩
      · omega
      exact hCb1
    · refine W_exit ?_
      repeat (first | refine blk_hit ?_ | refine blk_miss rfl ?_)
      refine W_seq ?_
      have hpl0 := put_len z hs
      have hzl0 : (varL z.length).length ≤ 10 := varL_ten (by omega)
      have e : (z.take i).flatMap insB = z.flatMap insB := by rw [show i = z.length by omega, List.take_length]
      rw [e] at hW
      refine W_region ?_
      refine L_r (r_mp rfl) ?_
      refine L_call (.plain rfl) rfl rfl (r_call Tryz.func41 rfl rfl rfl (by rfl)) (bytes_walk w0.heap.size bw (putL z) _ (hW.nw Ch.au) (by unfold putL; rw [List.length_append]; omega)) ?_
      rintro v55 w17 ⟨v', rfl, hvb, c17⟩
      have hz17 := c17.size
      refine L_r (r_av) ?_
      refine L_r (r_ai rfl) ?_
      refine L_nil ?_
      refine W_ret ?_
      refine ret2 (v := .int _ _) rfl (by conv => lhs; whnf) rfl ?_
      first
      | exact ⟨_, rfl, fun _ => rfl, fun h => absurd h (by omega), Ch.au⟩
      | (have e0 : allI z = 0 := by omega
         rw [e0]
         exact ⟨_, rfl, fun h => absurd rfl h, fun _ => hvb.mono (by omega), Ch.au⟩)
end Go.Proofs.YtioonbfinnigpaaGreatDoor

