/- Few instructions; the chapter's example; walked. -/
import Derived.Test.YtioonbfinnigpaaGreatDoorCode10
import Derived.Test.YtioonbfinnigpaaGreatDoorRef04b
namespace Go.Proofs.YtioonbfinnigpaaGreatDoor
open Go Go.RowKit
set_option linter.unusedVariables false
set_option linter.unusedSimpArgs false
set_option maxRecDepth 100000
theorem few_walk (v : Value) (z : List Ins) (w0 : World) (hv : Sl w0 v 3 z.length (cellsI z)) : Does Tryz.prog 6 #[v] w0 (fun r w' => ∃ b, r = .bool b ∧ (b = true → z.length ≤ 250 ∧ ∀ x ∈ z, x.op.size ≤ 300 ∧ x.s.size ≤ 300) ∧ Nw w0 w') := by
  refine fn_of (n := 29) (args := [v]) Tryz.func6 rfl rfl rfl ?_
  refine W_seq ?_
  refine W_region ?_
  refine L_r (r_ab rfl) ?_
  refine L_nil ?_
  refine W_seq ?_
  refine W_seq ?_
  refine W_region ?_
  refine L_r (r_mv) ?_
  refine L_r (r_lenSl Tryz.underlying22 (by conv => lhs; whnf) Sl.au) ?_
  refine L_r (r_gtr rfl rfl) ?_
  refine L_nil ?_
  refine W_if rfl (fun h6 => ?_) (fun h6 => ?_)
  · refine W_seq ?_
    refine W_region ?_
    refine L_r (r_ab rfl) ?_
    refine L_nil ?_
    refine W_ret ?_
    refine ret1 (v := .bool _) rfl rfl ?_
    first
    | exact ⟨false, rfl, fun h => Bool.noConfusion h, Ch.au⟩
    | (refine ⟨_, rfl, fun _ => ⟨by omega, fun x hx => ?_⟩, Ch.au⟩
       obtain ⟨j, hj, rfl⟩ := List.mem_iff_getElem.1 hx
       exact ha j hj (by omega))
  · refine W_skip ?_
    refine W_seq ?_
    refine W_seq ?_
    refine W_region ?_
    refine L_r (r_ai rfl) ?_
    refine L_nil ?_
    refine W_block ?_
    refine W_loopF [0] (fun mz_ f W => ∃ (i : Nat), f 3 = .int .i64 i ∧ (i ≤ z.length ∧ (∀ j (h : j < z.length), j < i → z[j].op.size ≤ 300 ∧ z[j].s.size ≤ 300) ∧ Nw w0 W) ∧ mz_ = z.length - i) ?_ ?_
    · refine ⟨_, 0, rfl, ?_, rfl⟩
      exact ⟨by omega, fun j h hj => absurd hj (by omega), Ch.au⟩
    rintro m0 g0 w1 ⟨i, hf3, hR0, rfl⟩
    refine W_as 3 hf3 rfl ?_
    clear hf3
    obtain ⟨hi, ha, hnw⟩ := hR0
    have hz := hnw.size
    refine W_seq ?_
    refine W_seq ?_
    refine W_region ?_
    refine L_r (r_mi rfl) ?_
    refine L_r (r_mv) ?_
    refine L_r (r_lenSl Tryz.underlying22 (by conv => lhs; whnf) Sl.au) ?_
    refine L_r (r_lss rfl rfl) ?_
    refine L_nil ?_
    refine W_if rfl (fun h10 => ?_) (fun h10 => ?_)
    · have hil : i < z.length := by omega
      have hrow := cellsI_row z i hil
      obtain ⟨x, hx⟩ : ∃ x, x = z[i] := ⟨_, rfl⟩
      rw [← hx] at hrow
      refine W_skip ?_
      refine W_seq ?_
      refine W_block ?_
      refine W_seq ?_
      refine W_region ?_
      refine L_r (r_mv) ?_
      refine L_r (r_mi rfl) ?_
      refine L_r (r_ix Tryz.underlying22 (show _ = some 3 from rfl) (by conv => lhs; whnf) rfl Sl.au) ?_
      refine L_r (r_fieldSl Tryz.underlying47 rfl (show _ = some 1 from rfl) rfl (show _ = 0 from rfl) (Nat.add_zero _) rfl) ?_
      refine L_r (r_loadSl rfl rfl Sl.au (by first | exact hrow 0 _ rfl | exact hrow 2 _ rfl)) ?_
      refine L_r (r_lens Tryz.underlying9 rfl) ?_
      refine L_r (r_gtr rfl rfl) ?_
      refine L_r (r_mb rfl) ?_
      refine L_case (d := 20) rfl (fun h20 => ?_) (fun h20 => ?_)
      · refine L_ps ?_
        refine L_ps ?_
        refine L_ps ?_
        refine L_ps ?_
        refine L_ps ?_
        refine L_ps ?_
        refine L_ps ?_
        refine L_r (r_pt rfl rfl) ?_
        refine L_nil ?_
        refine W_true rfl ?_
        refine W_seq ?_
        refine W_region ?_
        refine L_r (r_ab rfl) ?_
        refine L_nil ?_
        refine W_ret ?_
        refine ret1 (v := .bool _) rfl rfl ?_
        first
        | exact ⟨false, rfl, fun h => Bool.noConfusion h, Ch.au⟩
        | (refine ⟨_, rfl, fun _ => ⟨by omega, fun x hx => ?_⟩, Ch.au⟩
           obtain ⟨j, hj, rfl⟩ := List.mem_iff_getElem.1 hx
           exact ha j hj (by omega))
      · refine L_g (r_mv) ?_
        refine L_g (r_mi rfl) ?_
        refine L_g (r_ix Tryz.underlying22 (show _ = some 3 from rfl) (by conv => lhs; whnf) rfl Sl.au) ?_
        refine L_g (r_fieldSl Tryz.underlying47 rfl (show _ = some 1 from rfl) rfl (show _ = 2 from rfl) rfl rfl) ?_
        refine L_g (r_loadSl rfl rfl Sl.au (by first | exact hrow 0 _ rfl | exact hrow 2 _ rfl)) ?_
        refine L_g (r_lens Tryz.underlying9 rfl) ?_
        refine L_g (r_gtr rfl rfl) ?_
        refine L_r (r_pf rfl rfl) ?_
        refine L_nil ?_
        refine W_if rfl (fun h28 => ?_) (fun h28 => ?_)
        · refine W_seq ?_
          refine W_region ?_
          refine L_r (r_ab rfl) ?_
          refine L_nil ?_
          refine W_ret ?_
          refine ret1 (v := .bool _) rfl rfl ?_
          first
          | exact ⟨false, rfl, fun h => Bool.noConfusion h, Ch.au⟩
          | (refine ⟨_, rfl, fun _ => ⟨by omega, fun x hx => ?_⟩, Ch.au⟩
             obtain ⟨j, hj, rfl⟩ := List.mem_iff_getElem.1 hx
             exact ha j hj (by omega))
        · refine W_skip ?_
          refine W_region ?_
          refine L_r (r_mi rfl) ?_
          refine L_r (r_add rfl rfl (by first | exact wr_i64 (by omega) | rfl)) ?_
          refine L_r (r_ai rfl) ?_
          refine L_nil ?_
          refine ⟨⟨fx2, trivial⟩, _, ?_, i + 1, rfl, ?_, rfl⟩
          · omega
          refine ⟨by omega, fun j h hj => ?_, Ch.au⟩
          rcases Nat.lt_or_ge j i with h' | h'
          · exact ha j h h'
          · have e : j = i := by omega
            subst e
            rw [← hx]
            exact ⟨by omega, by omega⟩
    · refine W_exit ?_
      repeat (first | refine blk_hit ?_ | refine blk_miss rfl ?_)
      refine W_seq ?_
      refine W_region ?_
      refine L_r (r_ab rfl) ?_
      refine L_nil ?_
      refine W_ret ?_
      refine ret1 (v := .bool _) rfl rfl ?_
      first
      | exact ⟨false, rfl, fun h => Bool.noConfusion h, Ch.au⟩
      | (refine ⟨_, rfl, fun _ => ⟨by omega, fun x hx => ?_⟩, Ch.au⟩
         obtain ⟨j, hj, rfl⟩ := List.mem_iff_getElem.1 hx
         exact ha j hj (by omega))
def M0 : List Ins := [⟨{ data := #[105, 110, 116] }, -3, { data := #[] }⟩, ⟨{ data := #[108, 111, 97, 100] }, 1, { data := #[] }⟩, ⟨{ data := #[97, 100, 100] }, 0, { data := #[] }⟩]
theorem M0_all : allI M0 = 0 := by decide +kernel
theorem M0_ok : ∀ x ∈ M0, (-9223372036854775808 ≤ x.n ∧ x.n ≤ 9223372036854775807) ∧ x.op.size ≤ 1000 ∧ x.s.size ≤ 1000 := by
  intro x hx
  simp only [M0, List.mem_cons, List.not_mem_nil, or_false] at hx
  rcases hx with rfl | rfl | rfl <;> decide
theorem opx {s : ByteArray} {k : Nat} {o : ByteArray × Bool × Bool} (h1 : opIx s = some k) (h2 : opT.getD k default = o) (x : Ins) (hx : x.op = s) : insB x = insT k o x := by
  subst hx
  rw [insB_of h1, h2]
theorem M0_put : putL M0 = [3, 0, 5, 5, 2, 10] := by
  unfold putL M0
  simp only [List.flatMap_cons, List.flatMap_nil, List.length_cons, List.length_nil]
  rw [opx (s := { data := #[105, 110, 116] }) (k := 0) (o := ({ data := #[105, 110, 116] }, true, false)) (by decide +kernel) (by rfl) _ rfl]
  rw [opx (s := { data := #[108, 111, 97, 100] }) (k := 5) (o := ({ data := #[108, 111, 97, 100] }, true, false)) (by decide +kernel) (by rfl) _ rfl]
  rw [opx (s := { data := #[97, 100, 100] }) (k := 10) (o := ({ data := #[97, 100, 100] }, false, false)) (by decide +kernel) (by rfl) _ rfl]
  show varL 3 ++ ((varL 0 ++ (varL 5 ++ [])) ++ ((varL 5 ++ (varL 2 ++ [])) ++ ((varL 10 ++ ([] ++ [])) ++ []))) = _
  rw [varL_low (v := 3) (by decide), varL_low (v := 0) (by decide), varL_low (v := 5) (by decide), varL_low (v := 2) (by decide), varL_low (v := 10) (by decide)]; rfl
theorem M0_show : showB M0 { data := #[] } = { data := #[105, 110, 116, 32, 45, 51, 10, 108, 111, 97, 100, 32, 49, 10, 97, 100, 100, 10] } := by
  have h1 : Lib.itoa (-3) = [45, 51] := by
    show (45 :: Lib.decDigits 3) = _
    rw [Lib.decDigits, dif_pos (by decide)]; rfl
  have h2 : Lib.itoa 1 = [49] := by
    show Lib.decDigits 1 = _
    rw [Lib.decDigits, dif_pos (by decide)]; rfl
  have e1 : linF ⟨{ data := #[105, 110, 116] }, -3, { data := #[] }⟩ = { data := #[105, 110, 116] } ++ spB ++ sb (Lib.itoa (-3)) ++ nlB := by
    unfold linF
    rw [show takesF ({ data := #[105, 110, 116] } : ByteArray) = (true, false, true) by decide +kernel]; rfl
  have e2 : linF ⟨{ data := #[108, 111, 97, 100] }, 1, { data := #[] }⟩ = { data := #[108, 111, 97, 100] } ++ spB ++ sb (Lib.itoa 1) ++ nlB := by
    unfold linF
    rw [show takesF ({ data := #[108, 111, 97, 100] } : ByteArray) = (true, false, true) by decide +kernel]; rfl
  have e3 : linF ⟨{ data := #[97, 100, 100] }, 0, { data := #[] }⟩ = { data := #[97, 100, 100] } ++ nlB := by
    unfold linF
    rw [show takesF ({ data := #[97, 100, 100] } : ByteArray) = (false, false, true) by decide +kernel]; rfl
  unfold M0 showB showB showB showB
  rw [e1, e2, e3, h1, h2]
  rfl
theorem put0 (base : Nat) (v : Value) (w0 : World) (hG : Gv base w0) (hb : base ≤ w0.heap.size) (hv : Sl w0 v 3 3 (cellsI M0)) : Does Tryz.prog 16 #[v] w0 fun r w' => ∃ v', r = .tuple #[v', .int .i64 0] ∧ By w' v' [3, 0, 5, 5, 2, 10] ∧ Nw w0 w' := by
  refine (iput_walk base v M0 w0 hG hb hv (by decide) (fun x hx => ⟨(M0_ok x hx).1, (M0_ok x hx).2.2⟩)).mono ?_
  rintro r w' ⟨v', rfl, _, h2, c⟩
  rw [M0_all]
  refine ⟨_, rfl, ?_, c⟩
  have h := Ow.sl (h2 M0_all)
  rw [M0_put] at h
  exact h
theorem show0 (base : Nat) (v : Value) (w0 : World) (hG : Gv base w0) (hF : Fv base w0) (hb : base ≤ w0.heap.size) (hv : Sl w0 v 3 3 (cellsI M0)) : Does Tryz.prog 18 #[v] w0 fun r w' => r = .tuple #[.string { data := #[105, 110, 116, 32, 45, 51, 10, 108, 111, 97, 100, 32, 49, 10, 97, 100, 100, 10] }, .int .i64 0] ∧ Nw w0 w' := by
  refine (show_walk base v M0 w0 hG hF hb hv (by decide) (fun x hx => ⟨(M0_ok x hx).1, by have := (M0_ok x hx).2; omega, by have := (M0_ok x hx).2; omega⟩)).mono ?_
  rintro r w' ⟨rfl, c⟩
  rw [M0_all, if_pos rfl, M0_show]
  exact ⟨rfl, c⟩
theorem awake04_walk (base : Nat) (w0 : World) (hG : Gv base w0) (hF : Fv base w0) (hb : base ≤ w0.heap.size) : Does Tryz.prog 8 #[] w0 (fun r w' => r = .bool true ∧ Nw w0 w') := by
  refine fn_of (n := 40) (args := []) Tryz.func8 rfl rfl rfl ?_
  refine W_seq ?_
  refine W_region ?_
  refine L_r (r_ab rfl) ?_
  refine L_nil ?_
  refine W_seq ?_
  refine W_region ?_
  refine L_r (r_build1 (pl := [(0, 1), (1, 1), (2, 1)]) (vs := [(0, .string _), (1, .int _ _)]) (cells := [_, _, _]) Tryz.underlying47 rfl rfl (by rfl) rfl (by rfl)) ?_
  refine L_r (r_build1 (pl := [(0, 1), (1, 1), (2, 1)]) (vs := [(0, .string _), (1, .int _ _)]) (cells := [_, _, _]) Tryz.underlying47 rfl rfl (by rfl) rfl (by rfl)) ?_
  refine L_r (r_build1 (pl := [(0, 1), (1, 1), (2, 1)]) (vs := [(0, .string _)]) (cells := [_, _, _]) Tryz.underlying47 rfl rfl (by rfl) rfl (by rfl)) ?_
  refine L_buildrow [[_, _, _], [_, _, _], [_, _, _]] Tryz.underlying22 (show _ = some (some _, 3, _) from rfl) rfl rfl (.plain rfl) rfl (by rfl) (by rfl) rfl (fun b9 w1 hb9 hv9 eb1 hs1 c1 => ?_)
  simp only [List.flatten_cons, List.flatten_nil, List.append_nil, List.cons_append, List.nil_append] at hb9 hv9
  refine L_r (r_av) ?_
  refine L_nil ?_
  refine W_seq ?_
  refine W_region ?_
  refine L_r (r_mv) ?_
  refine L_call (.plain rfl) rfl rfl (r_call Tryz.func16 rfl rfl rfl (by rfl)) (put0 base _ _ (hG.nw Ch.au hb) (by omega) Sl.au) ?_
  rintro v12 w2 ⟨vp, rfl, hvp, c2⟩
  have hz2 := c2.size
  refine L_r (r_mv) ?_
  refine L_r (r_ext2_0 rfl) ?_
  refine L_r (r_ext2_1 rfl) ?_
  refine L_r (r_av) ?_
  refine L_r (r_ai rfl) ?_
  refine L_nil ?_
  refine W_seq ?_
  refine W_region ?_
  refine L_r (r_mv) ?_
  refine L_call (.plain rfl) rfl rfl (r_call Tryz.func18 rfl rfl rfl (by rfl)) (show0 base _ _ (hG.nw Ch.au hb) (hF.nw Ch.au hb) (by omega) Sl.au) ?_
  rintro v17 w3 ⟨rfl, c3⟩
  have hz3 := c3.size
  refine L_r (r_mv) ?_
  refine L_r (r_ext2_0 rfl) ?_
  refine L_r (r_ext2_1 rfl) ?_
  refine L_r (r_as rfl) ?_
  refine L_r (r_ai rfl) ?_
  refine L_nil ?_
  refine W_seq ?_
  refine W_region ?_
  refine L_r (r_mv) ?_
  refine L_r (r_bstr Tryz.underlying30 Tryz.underlying5 Tryz.underlying9 (by conv => lhs; whnf) Sl.au) ?_
  refine L_r (r_eqls rfl rfl) ?_
  refine L_as (v := .bool _) (v' := .bool true) 22 rfl (dec_t (by rfl)).symm ?_
  refine L_r (r_mb rfl) ?_
  refine L_g (r_mi rfl) ?_
  refine L_g (r_eql rfl rfl) ?_
  refine L_as (v := .bool _) (v' := .bool true) 25 rfl (dec_t (by rfl)).symm ?_
  refine L_r (r_pt rfl rfl) ?_
  refine L_r (r_mb rfl) ?_
  refine L_g (r_ms rfl) ?_
  refine L_g (r_eqls rfl rfl) ?_
  refine L_as (v := .bool _) (v' := .bool true) 29 rfl (dec_t (by rfl)).symm ?_
  refine L_r (r_pt rfl rfl) ?_
  refine L_r (r_mb rfl) ?_
  refine L_g (r_mi rfl) ?_
  refine L_g (r_eql rfl rfl) ?_
  refine L_as (v := .bool _) (v' := .bool true) 33 rfl (dec_t (by rfl)).symm ?_
  refine L_r (r_pt rfl rfl) ?_
  refine L_r (r_mb rfl) ?_
  refine L_call (.yes 15 true rfl rfl) rfl rfl (r_call Tryz.func21 rfl rfl rfl (by rfl)) (ops_walk base _ (hG.nw Ch.au hb) (by omega)) ?_
  rintro v36 w4 ⟨vo, rfl, hvo, c4⟩
  have hz4 := c4.size
  refine L_g (r_lenSl Tryz.underlying49 (by conv => lhs; whnf) Sl.au) ?_
  refine L_g (r_eql rfl rfl) ?_
  refine L_r (r_pt rfl rfl) ?_
  refine L_r (r_ab rfl) ?_
  refine L_nil ?_
  refine W_ret ?_
  refine ret1 (v := .bool _) rfl rfl ?_
  exact ⟨congrArg Value.bool (decide_eq_true (by decide)), Ch.au⟩
end Go.Proofs.YtioonbfinnigpaaGreatDoor

