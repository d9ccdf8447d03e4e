/- The statements CodeChecks and CodeOps, walked. -/
import Derived.Test.YtioonbfinnigpaaDoorCodeA
import Derived.Test.YtioonbfinnigpaaDoorCodeC
namespace Go.Proofs.YtioonbfinnigpaaDoor
open Go Go.RowKit Go.ChangeShapes
set_option linter.unusedVariables false
set_option linter.unusedSimpArgs false
set_option maxRecDepth 100000
theorem st_at {H : Type} {enc : TypeId × Value → H} {P : Program} {W : World} {n : Nat} {cs : List Value} {fs : Array Field} {xs : List (DataW H × List MemPlace)} (hl : xs.length = fs.size)
    (hf : ∀ (i : Nat) (f : Field), fs[i]? = some f → DataW.trod enc P W 0 (fun _ => true) true n f.type ((cs.drop f.offset).take (P.cellsOf f.type)) = xs[i]?) (i : Nat) (f : Field) (h : fs[i]? = some f) :
    ∃ y, DataW.trod enc P W 0 (fun _ => true) true n f.type ((cs.drop f.offset).take (P.cellsOf f.type)) = some y := by
  have hi : i < xs.length := by rw [hl]; exact (Array.getElem?_eq_some_iff.1 h).1
  exact ⟨xs[i], by rw [hf i f h, List.getElem?_eq_getElem hi]⟩
theorem wf_i64 {n : Int} (h : (Lit.int .i64 n).wf = true) : -9223372036854775808 ≤ n ∧ n ≤ 9223372036854775807 := by simpa [Lit.wf, IntKind.min, IntKind.max, IntKind.signed, IntKind.bits] using h
theorem rd_23 {H : Type} {enc : TypeId × Value → H} {W : World} {b0 : Nat} {v : Value} {d : DataW H} {p : List MemPlace}
    (hok : Value.okWide Tryd.prog W .any b0 23 v) (h : DataW.Trod enc Tryd.prog W 0 (fun _ => true) true 23 v d p) : ∃ z : Ins, v = z.v ∧ (-9223372036854775808 ≤ z.n ∧ z.n ≤ 9223372036854775807) := by
  have hag : ∃ cs, v = .agg cs ∧ cs.size = Tryd.prog.cellsOf 23 := by
    unfold Value.okWide at hok
    rw [Tryd.underlying23] at hok
    obtain ⟨cs, h1, h2, _⟩ := hok
    exact ⟨cs, h1, h2⟩
  obtain ⟨cs, rfl, hsz⟩ := hag
  obtain ⟨n, hy⟩ := h
  obtain ⟨xs, m, _, _, hl, hxl, hf⟩ := DataW.trod_struct Tryd.underlying23 hy
  have hl8 : cs.toList.length = 3 := by rw [Array.length_toList]; exact hsz
  have hcs : cs = cs.toList.toArray := by simp
  have hf2 : ∀ (i : Nat) (f : Field), _ = some f → DataW.trod enc Tryd.prog W 0 (fun _ => true) true m f.type ((cs.toList.drop f.offset).take (Tryd.prog.cellsOf f.type)) = xs[i]? := hf
  rw [hcs]
  generalize cs.toList = L at hl8 hf2
  match L, hl8 with
  | [c0, c1, c2], _ =>
    obtain ⟨y0, g0⟩ := st_at hxl hf2 0 _ rfl
    obtain ⟨y1, g1⟩ := st_at hxl hf2 1 _ rfl
    obtain ⟨y2, g2⟩ := st_at hxl hf2 2 _ rfl
    obtain ⟨s0, e0, _⟩ := DataW.trod_string Tryd.underlying9 g0
    obtain ⟨n1, e1, _, k1⟩ := DataW.trod_int Tryd.underlying2 g1
    obtain ⟨s2, e2, _⟩ := DataW.trod_string Tryd.underlying9 g2
    obtain rfl : c0 = .string s0 := by injection e0
    obtain rfl : c1 = .int .i64 n1 := by injection e1
    obtain rfl : c2 = .string s2 := by injection e2
    exact ⟨⟨s0, n1, s2⟩, rfl, wf_i64 k1⟩
theorem tk_lemma (s : ByteArray) : ((takesF s).2.2 = true ↔ 0 ≤ rtI (takesF s)) ∧ ((takesF s).1 = true ↔ rtI (takesF s) = 1) ∧ ((takesF s).2.1 = true ↔ rtI (takesF s) = 2) := by
  unfold takesF
  cases hk : opIx s with
  | none => exact ⟨by decide, by decide, by decide⟩
  | some k =>
    have := List.all_eq_true.1 tk_oneB k (List.mem_range.2 (opIx_lt hk))
    simp only
    generalize (opT.getD k default).2.1 = a at this ⊢
    generalize (opT.getD k default).2.2 = b at this ⊢
    revert this
    cases a <;> cases b <;> decide
theorem beq_dec {a : Bool} {p : Prop} [Decidable p] (h : a = true ↔ p) : a = decide p := by
  cases a <;> by_cases hp : p <;> simp_all
theorem bool_iff_dec {a b : Bool} {p : Prop} [Decidable p] (h : a = true ↔ p) : Value.bool (a == decide p) = .bool true := by
  cases a <;> by_cases hp : p <;> simp_all
set_option maxHeartbeats 1000000 in
theorem CodeChecks_walk (x : Ins) (w0 : World) (hx : -9223372036854775808 ≤ x.n ∧ x.n ≤ 9223372036854775807) (hL : Lv w0) : Does Tryd.prog 3 #[x.v] w0 (fun r w' => r = .bool true ∧ Nw w0 w') := by
  have hG := fun W (c : Nw w0 W) => hL.gv.nw c (Nat.le_refl _)
  have hF := fun W (c : Nw w0 W) => hL.fv.nw c (Nat.le_refl _)
  obtain ⟨hk1, hk2, hk3⟩ := tk_lemma x.op
  have htk := fun W (c : Nw w0 W) => takes_walk w0.heap.size x.op W (hG W c) c.size
  have hrt := rtakes_walk x.op
  generalize takesF x.op = tt at hk1 hk2 hk3 htk hrt
  generalize rtI tt = r at hk1 hk2 hk3 hrt
  obtain ⟨ta, tb, tc⟩ := tt
  refine fn_of (n := 48) (args := [x.v]) Tryd.func3 rfl rfl rfl ?_
  refine W_seq ?_
  refine W_region ?_
  refine L_new (.plain rfl) rfl rfl (r_boxa rfl) (fun w1 b1 hb1 eb1 hs1 c1 => ?_)
  refine L_r (r_ab rfl) ?_
  refine L_nil ?_
  refine W_seq ?_
  refine W_seq ?_
  refine W_region ?_
  refine L_r (r_loadrow Tryd.underlying23 rfl rfl Bk.au (by first | rfl | assumption)) ?_
  refine L_buildrow [[_, _, _]] Tryd.underlying25 (show _ = some (some _, 3, _) from rfl) rfl rfl (.plain rfl) rfl (by rfl) (by rfl) rfl (fun b8 w2 hb8 hv8 eb2 hs2 c2 => ?_)
  simp only [List.flatten_cons, List.flatten_nil, List.append_nil, List.cons_append, List.nil_append] at hb8 hv8
  refine L_call (.plain rfl) rfl rfl (r_call Tryd.func7 rfl rfl rfl (by rfl)) (few_walk _ [x] _ Sl.au (by show 1 ≤ _; decide)) ?_
  rintro v9 w3 ⟨b, rfl, hfew, c3⟩
  have hz3 := c3.size
  refine L_r (r_not rfl) ?_
  refine L_nil ?_
  refine W_bool rfl (fun h10 => ?_) (fun h10 => ?_)
  · refine W_seq ?_
    refine W_region ?_
    refine L_call (.plain rfl) rfl rfl (r_call Tryd.func8 rfl rfl rfl (by rfl)) (awake04_walk w0.heap.size _ (hG _ Ch.au) (hF _ Ch.au) (by omega)) ?_
    rintro v11 w4 ⟨rfl, c4⟩
    have hz4 := c4.size
    refine L_r (r_ab rfl) ?_
    refine L_nil ?_
    refine W_ret ?_
    refine ret1 (v := .bool _) rfl rfl ?_
    refine ⟨?_, Ch.au⟩
    first
    | exact congrArg Value.bool (decide_eq_true (beq_dec hk3))
    | rfl
  · have hsz := hfew (by simpa using h10)
    have hxs := (hsz.2 x (List.mem_singleton.2 rfl)).2
    refine W_skip ?_
    refine W_seq ?_
    refine W_region ?_
    refine L_r (r_fieldb Tryd.underlying23 rfl (show _ = some 1 from rfl) rfl rfl (show _ = 0 from rfl)) ?_
    refine L_r (r_lb rfl rfl) ?_
    refine L_call (.plain rfl) rfl rfl (r_call Tryd.func9 rfl rfl rfl (by rfl)) (htk _ Ch.au) ?_
    rintro v15 w5 ⟨rfl, c5⟩
    have hz5 := c5.size
    refine L_r (r_mv) ?_
    refine L_r (r_ext3_0 rfl) ?_
    refine L_r (r_ext3_1 rfl) ?_
    refine L_r (r_ext3_2 rfl) ?_
    refine L_r (r_ab rfl) ?_
    refine L_r (r_ab rfl) ?_
    refine L_r (r_ab rfl) ?_
    refine L_nil ?_
    refine W_seq ?_
    refine W_region ?_
    refine L_r (r_fieldb Tryd.underlying23 rfl (show _ = some 1 from rfl) rfl rfl (show _ = 0 from rfl)) ?_
    refine L_r (r_lb rfl rfl) ?_
    refine L_call (.plain rfl) rfl rfl (r_call Tryd.func10 rfl rfl rfl (by rfl)) (hrt _) ?_
    rintro v21 w6 ⟨rfl, c6⟩
    have hz6 := c6.size
    refine L_r (r_ai rfl) ?_
    refine L_nil ?_
    refine W_seq ?_
    refine W_draw (fun W => Bk W b1 #[.string x.op, .int .i64 x.n, .string x.s] 23) 27 (m := 27) (by kernel_rfl) rfl (fun w7 c7 hs7 => ?_)
    refine held Bk.au (fun hS => ?_)
    refine D_ev 0 (by kernel_rfl) rfl ?_
    refine L_call (.plain rfl) rfl rfl (r_call Tryd.func8 rfl rfl rfl (by rfl)) (awake04_walk w0.heap.size _ (hG _ Ch.au) (hF _ Ch.au) (by omega)) ?_
    rintro v22 w8 ⟨rfl, c8⟩
    have hz8 := c8.size
    refine L_nil ?_
    refine heldK Bk.au (fun hS => ?_)
    refine D_t 1 rfl (fun W hW => r_mb rfl) ?_
    refine D_as (v := .bool _) (v' := .bool true) 23 rfl (congrArg Value.bool (by rfl)) ?_
    refine D_g 2 rfl (fun W hW => r_loadrow Tryd.underlying23 rfl rfl (by exact hW) (by first | rfl | assumption)) ?_
    refine D_g 4 rfl (fun W hW => r_loadrow Tryd.underlying23 rfl rfl (by exact hW) (by first | rfl | assumption)) ?_
    refine D_ev 3 (by kernel_rfl) rfl ?_
    refine L_call (.yes 1 true rfl rfl) rfl rfl (r_call Tryd.func11 rfl rfl rfl (by rfl)) (icheck_walk w0.heap.size x _ (hG _ Ch.au) (by omega) (by omega)) ?_
    rintro v25 w9 ⟨rfl, c9⟩
    have hz9 := c9.size
    refine L_nil ?_
    refine heldK Bk.au (fun hS => ?_)
    refine D_ev 5 (by kernel_rfl) rfl ?_
    refine L_call (.yes 1 true rfl rfl) rfl rfl (r_call Tryd.func12 rfl rfl rfl (by rfl)) (rcheck04_walk x _ (by omega)) ?_
    rintro v27 w10 ⟨rfl, c10⟩
    have hz10 := c10.size
    refine L_nil ?_
    refine heldK Bk.au (fun hS => ?_)
    refine D_g 6 rfl (fun W hW => r_eql rfl rfl) ?_
    refine D_t 7 rfl (fun W hW => r_pt rfl rfl) ?_
    refine D_t 8 rfl (fun W hW => r_mb rfl) ?_
    refine D_as (v := .bool _) (v' := .bool true) 30 rfl (dec_t (by rfl)).symm ?_
    refine D_g 9 rfl (fun W hW => r_mb rfl) ?_
    refine D_g 10 rfl (fun W hW => r_mi rfl) ?_
    refine D_g 11 rfl (fun W hW => r_geq rfl rfl) ?_
    refine D_g 12 rfl (fun W hW => r_eqlb Tryd.underlying4 rfl rfl) ?_
    refine D_t 13 rfl (fun W hW => r_pt rfl rfl) ?_
    refine D_t 14 rfl (fun W hW => r_mb rfl) ?_
    refine D_as (v := .bool _) (v' := .bool true) 36 rfl (dec_t (by exact beq_dec hk1)).symm ?_
    refine D_g 15 rfl (fun W hW => r_mb rfl) ?_
    refine D_g 16 rfl (fun W hW => r_mi rfl) ?_
    refine D_g 17 rfl (fun W hW => r_eql rfl rfl) ?_
    refine D_g 18 rfl (fun W hW => r_eqlb Tryd.underlying4 rfl rfl) ?_
    refine D_t 19 rfl (fun W hW => r_pt rfl rfl) ?_
    refine D_t 20 rfl (fun W hW => r_mb rfl) ?_
    refine D_as (v := .bool _) (v' := .bool true) 42 rfl (dec_t (by exact beq_dec hk2)).symm ?_
    refine D_g 21 rfl (fun W hW => r_mb rfl) ?_
    refine D_g 22 rfl (fun W hW => r_mi rfl) ?_
    refine D_g 23 rfl (fun W hW => r_eql rfl rfl) ?_
    refine D_g 24 rfl (fun W hW => r_eqlb Tryd.underlying4 rfl rfl) ?_
    refine D_t 25 rfl (fun W hW => r_pt rfl rfl) ?_
    refine D_t 26 rfl (fun W hW => r_ab rfl) ?_
    refine D_done (by kernel_rfl) ?_
    refine W_ret ?_
    refine ret1 (v := .bool _) rfl rfl ?_
    refine ⟨?_, Ch.au⟩
    first
    | exact congrArg Value.bool (decide_eq_true (beq_dec hk3))
    | rfl
set_option maxHeartbeats 1000000 in
theorem CodeOps_walk (at' : Int) (w0 : World) (hx : -9223372036854775808 ≤ at' ∧ at' ≤ 9223372036854775807) (hL : Lv w0) : Does Tryd.prog 4 #[.int .i64 at'] w0 (fun r w' => r = .bool true ∧ Nw w0 w') := by
  have hG := fun W (c : Nw w0 W) => hL.gv.nw c (Nat.le_refl _)
  have hF := fun W (c : Nw w0 W) => hL.fv.nw c (Nat.le_refl _)
  obtain ⟨NL, hNL⟩ : ∃ N, N = nmL := ⟨_, rfl⟩
  have hops := fun W (c : Nw w0 W) => ops_walk w0.heap.size W (hG W c) c.size
  have hrops := rops_walk
  rw [← hNL] at hops hrops
  have hat : ∀ i, i < 42 → ∃ s, NL[i]? = some (.string s) := by
    intro i hi
    rw [hNL]
    exact ⟨_, show (opT.map fun o => Value.string o.1)[i]? = some (.string (opT[i]'(by rw [opT_len]; exact hi)).1) by rw [List.getElem?_map, List.getElem?_eq_getElem]; rfl⟩
  have hNl : NL.length = 42 := by rw [hNL]; show (opT.map _).length = 42; rw [List.length_map, opT_len]
  clear hNL
  refine fn_of (n := 62) (args := [.int .i64 at']) Tryd.func4 rfl rfl rfl ?_
  refine W_seq ?_
  refine W_region ?_
  refine L_r (r_ab rfl) ?_
  refine L_nil ?_
  refine W_seq ?_
  refine W_region ?_
  refine L_call (.plain rfl) rfl rfl (r_call Tryd.func13 rfl rfl rfl (by rfl)) (hops _ Ch.au) ?_
  rintro v6 w1 ⟨_, rfl, ho6, c1⟩
  have hz1 := c1.size
  refine L_call (.plain rfl) rfl rfl (r_call Tryd.func14 rfl rfl rfl (by rfl)) (hrops _) ?_
  rintro v7 w2 ⟨_, rfl, ho7, c2⟩
  have hz2 := c2.size
  have hsep : ∀ j, v7.ownBlock = some j → v6.ownBlock ≠ some j := fun j h h' => by { have := ow_base ho7 h; have := ho6.lt h'; omega }
  refine L_r (r_av) ?_
  refine L_r (r_av) ?_
  refine L_nil ?_
  refine W_seq ?_
  refine W_seq ?_
  refine W_region ?_
  refine L_call (.plain rfl) rfl rfl (r_call Tryd.func8 rfl rfl rfl (by rfl)) (awake04_walk w0.heap.size _ (hG _ Ch.au) (hF _ Ch.au) (by omega)) ?_
  rintro v8 w3 ⟨rfl, c3⟩
  have hz3 := c3.size
  refine L_r (r_not rfl) ?_
  refine L_as (v := .bool _) (v' := .bool false) 9 rfl (congrArg Value.bool (by rfl)) ?_
  refine L_r (r_mb rfl) ?_
  refine L_g (r_mv) ?_
  refine L_g (r_lenSl Tryd.underlying33 (by conv => lhs; whnf) Sl.au) ?_
  refine L_g (r_mv) ?_
  refine L_g (r_lenSl Tryd.underlying33 (by conv => lhs; whnf) Sl.au) ?_
  refine L_g (r_neq rfl rfl) ?_
  refine L_as (v := .bool _) (v' := .bool false) 15 rfl (dec_f (by simp)).symm ?_
  refine L_r (r_pf rfl rfl) ?_
  refine L_nil ?_
  refine W_false rfl ?_
  refine W_skip ?_
  refine W_seq ?_
  refine W_seq ?_
  refine W_region ?_
  refine L_r (r_ai rfl) ?_
  refine L_nil ?_
  refine W_block ?_
  refine W_loopF [0, 3, 4] (fun mz_ f W => ∃ (i : Nat), f 5 = .int .i64 i ∧ (i ≤ 42 ∧ Nw w3 W) ∧ mz_ = 42 - i) ?_ ?_
  · refine ⟨_, 0, rfl, ?_, rfl⟩
    exact ⟨by omega, Ch.au⟩
  rintro m0 g0 w4 ⟨i, hf5, hR0, rfl⟩
  refine W_as 5 hf5 rfl ?_
  clear hf5
  obtain ⟨hi, hnw⟩ := hR0
  have hz := hnw.size
  refine W_seq ?_
  refine W_seq ?_
  refine W_region ?_
  refine L_r (r_mi rfl) ?_
  refine L_r (r_mv) ?_
  refine L_r (r_lenSl Tryd.underlying33 (by conv => lhs; whnf) Sl.au) ?_
  refine L_r (r_lss rfl rfl) ?_
  refine L_nil ?_
  refine W_if rfl (fun h20 => ?_) (fun h20 => ?_)
  · obtain ⟨s, hs⟩ := hat i (by omega)
    refine W_skip ?_
    refine W_seq ?_
    refine W_block ?_
    refine W_seq ?_
    refine W_draw (fun W => Sl W v6 1 42 NL ∧ Sl W v7 1 42 NL) 9 (m := 9) (by kernel_rfl) rfl (fun w5 c5 hs5 => ?_)
    refine held (by exact ⟨Sl.au, Sl.au⟩) (fun hS => ?_)
    refine D_t 0 rfl (fun W hW => r_mv) ?_
    refine D_t 1 rfl (fun W hW => r_mi rfl) ?_
    refine D_t 2 rfl (fun W hW => r_ix Tryd.underlying33 (show _ = some 1 from rfl) (by conv => lhs; whnf) rfl gw) ?_
    refine D_t 3 rfl (fun W hW => r_loadSl rfl rfl gw (by first | exact hs | exact hs2)) ?_
    refine D_t 4 rfl (fun W hW => r_mv) ?_
    refine D_t 5 rfl (fun W hW => r_mi rfl) ?_
    refine D_t 6 rfl (fun W hW => r_ix Tryd.underlying33 (show _ = some 1 from rfl) (by conv => lhs; whnf) rfl gw) ?_
    refine D_t 7 rfl (fun W hW => r_loadSl rfl rfl gw (by first | exact hs | exact hs2)) ?_
    refine D_t 8 rfl (fun W hW => r_neqs rfl rfl) ?_
    refine D_as (v := .bool _) (v' := .bool false) 31 rfl (dec_f (by simp)).symm ?_
    refine D_done (by kernel_rfl) ?_
    refine W_false rfl ?_
    refine W_skip ?_
    refine W_region ?_
    refine L_r (r_mi rfl) ?_
    refine L_r (r_add rfl rfl (by first | exact wr_i64 (by omega) | rfl)) ?_
    refine L_r (r_ai rfl) ?_
    refine L_nil ?_
    refine ⟨⟨fx2, fx2, fx2, trivial⟩, _, ?_, i + 1, rfl, ?_, rfl⟩
    · omega
    exact ⟨by omega, Ch.au⟩
  · refine W_exit ?_
    repeat (first | refine blk_hit ?_ | refine blk_miss rfl ?_)
    refine W_seq ?_
    refine W_seq ?_
    refine W_region ?_
    refine L_r (r_mi rfl) ?_
    refine L_r (r_geq rfl rfl) ?_
    refine L_r (r_mb rfl) ?_
    refine L_case (d := 34) rfl (fun h34 => ?_) (fun h34 => ?_)
    · refine L_g (r_mi rfl) ?_
      refine L_g (r_mv) ?_
      refine L_g (r_lenSl Tryd.underlying33 (by conv => lhs; whnf) Sl.au) ?_
      refine L_g (r_lss rfl rfl) ?_
      refine L_r (r_pt rfl rfl) ?_
      refine L_nil ?_
      refine W_if rfl (fun h39 => ?_) (fun h39 => ?_)
      · refine W_region ?_
        refine L_r (r_mv) ?_
        refine L_r (r_mi rfl) ?_
        refine L_r (r_ix Tryd.underlying33 (show _ = some 1 from rfl) (by conv => lhs; whnf) rfl Sl.au) ?_
        refine L_setOw (.plain rfl) rfl rfl (u := .string _) rfl rfl Ow.au (by omega) (fun w6 hb6 hs6 c6 => ?_)
        refine L_nil ?_
        refine W_seq ?_
        refine W_draw (fun W => Sl W v7 1 42 NL) 20 (m := 20) (by kernel_rfl) rfl (fun w7 c7 hs7 => ?_)
        refine held Sl.au (fun hS => ?_)
        refine D_t 0 rfl (fun W hW => r_mi rfl) ?_
        refine D_t 1 rfl (fun W hW => r_lss rfl rfl) ?_
        refine D_t 2 rfl (fun W hW => r_mb rfl) ?_
        refine D_case (d := 45) rfl (fun h45 => ?_) (fun h45 => ?_)
        · refine D_ps 3 rfl ?_
          refine D_ps 4 rfl ?_
          refine D_ps 5 rfl ?_
          refine D_ps 6 rfl ?_
          refine D_t 7 rfl (fun W hW => r_pt rfl rfl) ?_
          refine D_t 8 rfl (fun W hW => r_mb rfl) ?_
          refine D_ps 9 rfl ?_
          refine D_ps 10 rfl ?_
          refine D_ps 11 rfl ?_
          refine D_ps 12 rfl ?_
          refine D_ps 13 rfl ?_
          refine D_ps 14 rfl ?_
          refine D_ps 15 rfl ?_
          refine D_ps 16 rfl ?_
          refine D_ps 17 rfl ?_
          refine D_t 18 rfl (fun W hW => r_pt rfl rfl) ?_
          refine D_t 19 rfl (fun W hW => r_ab rfl) ?_
          refine D_done (by kernel_rfl) ?_
          refine W_ret ?_
          refine ret1 (v := .bool _) rfl rfl ?_
          refine ⟨?_, Ch.au⟩
          first
          | rfl
          | exact congrArg Value.bool (decide_eq_true rfl)
        · refine D_g 3 rfl (fun W hW => r_mi rfl) ?_
          refine D_g 4 rfl (fun W hW => r_mv) ?_
          refine D_g 5 rfl (fun W hW => r_lenSl Tryd.underlying33 (by conv => lhs; whnf) (by first | exact hW | exact hW.1 | exact hW.2)) ?_
          refine D_g 6 rfl (fun W hW => r_geq rfl rfl) ?_
          refine D_t 7 rfl (fun W hW => r_pf rfl rfl) ?_
          refine D_t 8 rfl (fun W hW => r_mb rfl) ?_
          refine D_case (d := 51) rfl (fun h51 => ?_) (fun h51 => ?_)
          · refine D_ps 9 rfl ?_
            refine D_ps 10 rfl ?_
            refine D_ps 11 rfl ?_
            refine D_ps 12 rfl ?_
            refine D_ps 13 rfl ?_
            refine D_ps 14 rfl ?_
            refine D_ps 15 rfl ?_
            refine D_ps 16 rfl ?_
            refine D_ps 17 rfl ?_
            refine D_t 18 rfl (fun W hW => r_pt rfl rfl) ?_
            refine D_t 19 rfl (fun W hW => r_ab rfl) ?_
            refine D_done (by kernel_rfl) ?_
            refine W_ret ?_
            refine ret1 (v := .bool _) rfl rfl ?_
            refine ⟨?_, Ch.au⟩
            first
            | rfl
            | exact congrArg Value.bool (decide_eq_true rfl)
          · obtain ⟨s2, hs2⟩ := hat at'.toNat (by omega)
            refine D_g 10 rfl (fun W hW => r_mi rfl) ?_
            refine D_g 13 rfl (fun W hW => r_mv) ?_
            refine D_g 14 rfl (fun W hW => r_mi rfl) ?_
            refine D_g 15 rfl (fun W hW => r_ix Tryd.underlying33 (show _ = some 1 from rfl) (by conv => lhs; whnf) rfl (by first | exact hW | exact hW.1 | exact hW.2)) ?_
            refine D_g 16 rfl (fun W hW => r_loadSl rfl rfl (by first | exact hW | exact hW.1 | exact hW.2) (by first | exact hs | exact hs2)) ?_
            refine D_ev 9 (by kernel_rfl) rfl ?_
            refine L_call (.yes 8 false rfl rfl) rfl rfl (r_call Tryd.func13 rfl rfl rfl (by rfl)) (hops _ Ch.au) ?_
            rintro v52 w8 ⟨_, rfl, ho52, c8⟩
            have hz8 := c8.size
            refine L_nil ?_
            refine heldK Sl.au (fun hS => ?_)
            refine D_more (S' := fun W => (fun W => Sl W v7 1 42 NL) W ∧ (fun W => Sl W v52 1 42 NL) W) (fun W h => h.1) ⟨hS, Sl.au⟩ (fun hS => ?_)
            refine D_g 11 rfl (fun W hW => r_ix Tryd.underlying33 (show _ = some 1 from rfl) (by conv => lhs; whnf) rfl (by first | exact hW.2 | (have hW := hW.1; first | exact hW | exact hW.1 | exact hW.2))) ?_
            refine D_g 12 rfl (fun W hW => r_loadSl rfl rfl (by first | exact hW.2 | (have hW := hW.1; first | exact hW | exact hW.1 | exact hW.2)) (by first | exact hs | exact hs2)) ?_
            refine D_g 17 rfl (fun W hW => r_eqls rfl rfl) ?_
            refine D_t 18 rfl (fun W hW => r_pf rfl rfl) ?_
            refine D_t 19 rfl (fun W hW => r_ab rfl) ?_
            refine D_done (by kernel_rfl) ?_
            refine W_ret ?_
            refine ret1 (v := .bool _) rfl rfl ?_
            refine ⟨?_, Ch.au⟩
            first
            | rfl
            | exact congrArg Value.bool (decide_eq_true rfl)
      · refine W_skip ?_
        refine W_seq ?_
        refine W_draw (fun W => Sl W v7 1 42 NL) 20 (m := 20) (by kernel_rfl) rfl (fun w9 c9 hs9 => ?_)
        refine held Sl.au (fun hS => ?_)
        refine D_t 0 rfl (fun W hW => r_mi rfl) ?_
        refine D_t 1 rfl (fun W hW => r_lss rfl rfl) ?_
        refine D_t 2 rfl (fun W hW => r_mb rfl) ?_
        refine D_case (d := 45) rfl (fun h45 => ?_) (fun h45 => ?_)
        · refine D_ps 3 rfl ?_
          refine D_ps 4 rfl ?_
          refine D_ps 5 rfl ?_
          refine D_ps 6 rfl ?_
          refine D_t 7 rfl (fun W hW => r_pt rfl rfl) ?_
          refine D_t 8 rfl (fun W hW => r_mb rfl) ?_
          refine D_ps 9 rfl ?_
          refine D_ps 10 rfl ?_
          refine D_ps 11 rfl ?_
          refine D_ps 12 rfl ?_
          refine D_ps 13 rfl ?_
          refine D_ps 14 rfl ?_
          refine D_ps 15 rfl ?_
          refine D_ps 16 rfl ?_
          refine D_ps 17 rfl ?_
          refine D_t 18 rfl (fun W hW => r_pt rfl rfl) ?_
          refine D_t 19 rfl (fun W hW => r_ab rfl) ?_
          refine D_done (by kernel_rfl) ?_
          refine W_ret ?_
          refine ret1 (v := .bool _) rfl rfl ?_
          refine ⟨?_, Ch.au⟩
          first
          | rfl
          | exact congrArg Value.bool (decide_eq_true rfl)
        · refine D_g 3 rfl (fun W hW => r_mi rfl) ?_
          refine D_g 4 rfl (fun W hW => r_mv) ?_
          refine D_g 5 rfl (fun W hW => r_lenSl Tryd.underlying33 (by conv => lhs; whnf) (by first | exact hW | exact hW.1 | exact hW.2)) ?_
          refine D_g 6 rfl (fun W hW => r_geq rfl rfl) ?_
          refine D_t 7 rfl (fun W hW => r_pf rfl rfl) ?_
          refine D_t 8 rfl (fun W hW => r_mb rfl) ?_
          refine D_case (d := 51) rfl (fun h51 => ?_) (fun h51 => ?_)
          · refine D_ps 9 rfl ?_
            refine D_ps 10 rfl ?_
            refine D_ps 11 rfl ?_
            refine D_ps 12 rfl ?_
            refine D_ps 13 rfl ?_
            refine D_ps 14 rfl ?_
            refine D_ps 15 rfl ?_
            refine D_ps 16 rfl ?_
            refine D_ps 17 rfl ?_
            refine D_t 18 rfl (fun W hW => r_pt rfl rfl) ?_
            refine D_t 19 rfl (fun W hW => r_ab rfl) ?_
            refine D_done (by kernel_rfl) ?_
            refine W_ret ?_
            refine ret1 (v := .bool _) rfl rfl ?_
            refine ⟨?_, Ch.au⟩
            first
            | rfl
            | exact congrArg Value.bool (decide_eq_true rfl)
          · obtain ⟨s2, hs2⟩ := hat at'.toNat (by omega)
            refine D_g 10 rfl (fun W hW => r_mi rfl) ?_
            refine D_g 13 rfl (fun W hW => r_mv) ?_
            refine D_g 14 rfl (fun W hW => r_mi rfl) ?_
            refine D_g 15 rfl (fun W hW => r_ix Tryd.underlying33 (show _ = some 1 from rfl) (by conv => lhs; whnf) rfl (by first | exact hW | exact hW.1 | exact hW.2)) ?_
            refine D_g 16 rfl (fun W hW => r_loadSl rfl rfl (by first | exact hW | exact hW.1 | exact hW.2) (by first | exact hs | exact hs2)) ?_
            refine D_ev 9 (by kernel_rfl) rfl ?_
            refine L_call (.yes 8 false rfl rfl) rfl rfl (r_call Tryd.func13 rfl rfl rfl (by rfl)) (hops _ Ch.au) ?_
            rintro v52 w10 ⟨_, rfl, ho52, c10⟩
            have hz10 := c10.size
            refine L_nil ?_
            refine heldK Sl.au (fun hS => ?_)
            refine D_more (S' := fun W => (fun W => Sl W v7 1 42 NL) W ∧ (fun W => Sl W v52 1 42 NL) W) (fun W h => h.1) ⟨hS, Sl.au⟩ (fun hS => ?_)
            refine D_g 11 rfl (fun W hW => r_ix Tryd.underlying33 (show _ = some 1 from rfl) (by conv => lhs; whnf) rfl (by first | exact hW.2 | (have hW := hW.1; first | exact hW | exact hW.1 | exact hW.2))) ?_
            refine D_g 12 rfl (fun W hW => r_loadSl rfl rfl (by first | exact hW.2 | (have hW := hW.1; first | exact hW | exact hW.1 | exact hW.2)) (by first | exact hs | exact hs2)) ?_
            refine D_g 17 rfl (fun W hW => r_eqls rfl rfl) ?_
            refine D_t 18 rfl (fun W hW => r_pf rfl rfl) ?_
            refine D_t 19 rfl (fun W hW => r_ab rfl) ?_
            refine D_done (by kernel_rfl) ?_
            refine W_ret ?_
            refine ret1 (v := .bool _) rfl rfl ?_
            refine ⟨?_, Ch.au⟩
            first
            | rfl
            | exact congrArg Value.bool (decide_eq_true rfl)
    · refine L_ps ?_
      refine L_ps ?_
      refine L_ps ?_
      refine L_ps ?_
      refine L_r (r_pf rfl rfl) ?_
      refine L_nil ?_
      refine W_false rfl ?_
      refine W_skip ?_
      refine W_seq ?_
      refine W_draw (fun W => Sl W v7 1 42 NL) 20 (m := 20) (by kernel_rfl) rfl (fun w11 c11 hs11 => ?_)
      refine held Sl.au (fun hS => ?_)
      refine D_t 0 rfl (fun W hW => r_mi rfl) ?_
      refine D_t 1 rfl (fun W hW => r_lss rfl rfl) ?_
      refine D_t 2 rfl (fun W hW => r_mb rfl) ?_
      refine D_case (d := 45) rfl (fun h45 => ?_) (fun h45 => ?_)
      · refine D_ps 3 rfl ?_
        refine D_ps 4 rfl ?_
        refine D_ps 5 rfl ?_
        refine D_ps 6 rfl ?_
        refine D_t 7 rfl (fun W hW => r_pt rfl rfl) ?_
        refine D_t 8 rfl (fun W hW => r_mb rfl) ?_
        refine D_ps 9 rfl ?_
        refine D_ps 10 rfl ?_
        refine D_ps 11 rfl ?_
        refine D_ps 12 rfl ?_
        refine D_ps 13 rfl ?_
        refine D_ps 14 rfl ?_
        refine D_ps 15 rfl ?_
        refine D_ps 16 rfl ?_
        refine D_ps 17 rfl ?_
        refine D_t 18 rfl (fun W hW => r_pt rfl rfl) ?_
        refine D_t 19 rfl (fun W hW => r_ab rfl) ?_
        refine D_done (by kernel_rfl) ?_
        refine W_ret ?_
        refine ret1 (v := .bool _) rfl rfl ?_
        refine ⟨?_, Ch.au⟩
        first
        | rfl
        | exact congrArg Value.bool (decide_eq_true rfl)
      · refine D_g 3 rfl (fun W hW => r_mi rfl) ?_
        refine D_g 4 rfl (fun W hW => r_mv) ?_
        refine D_g 5 rfl (fun W hW => r_lenSl Tryd.underlying33 (by conv => lhs; whnf) (by first | exact hW | exact hW.1 | exact hW.2)) ?_
        refine D_g 6 rfl (fun W hW => r_geq rfl rfl) ?_
        refine D_t 7 rfl (fun W hW => r_pf rfl rfl) ?_
        refine D_t 8 rfl (fun W hW => r_mb rfl) ?_
        refine D_case (d := 51) rfl (fun h51 => ?_) (fun h51 => ?_)
        · refine D_ps 9 rfl ?_
          refine D_ps 10 rfl ?_
          refine D_ps 11 rfl ?_
          refine D_ps 12 rfl ?_
          refine D_ps 13 rfl ?_
          refine D_ps 14 rfl ?_
          refine D_ps 15 rfl ?_
          refine D_ps 16 rfl ?_
          refine D_ps 17 rfl ?_
          refine D_t 18 rfl (fun W hW => r_pt rfl rfl) ?_
          refine D_t 19 rfl (fun W hW => r_ab rfl) ?_
          refine D_done (by kernel_rfl) ?_
          refine W_ret ?_
          refine ret1 (v := .bool _) rfl rfl ?_
          refine ⟨?_, Ch.au⟩
          first
          | rfl
          | exact congrArg Value.bool (decide_eq_true rfl)
        · obtain ⟨s2, hs2⟩ := hat at'.toNat (by omega)
          refine D_g 10 rfl (fun W hW => r_mi rfl) ?_
          refine D_g 13 rfl (fun W hW => r_mv) ?_
          refine D_g 14 rfl (fun W hW => r_mi rfl) ?_
          refine D_g 15 rfl (fun W hW => r_ix Tryd.underlying33 (show _ = some 1 from rfl) (by conv => lhs; whnf) rfl (by first | exact hW | exact hW.1 | exact hW.2)) ?_
          refine D_g 16 rfl (fun W hW => r_loadSl rfl rfl (by first | exact hW | exact hW.1 | exact hW.2) (by first | exact hs | exact hs2)) ?_
          refine D_ev 9 (by kernel_rfl) rfl ?_
          refine L_call (.yes 8 false rfl rfl) rfl rfl (r_call Tryd.func13 rfl rfl rfl (by rfl)) (hops _ Ch.au) ?_
          rintro v52 w12 ⟨_, rfl, ho52, c12⟩
          have hz12 := c12.size
          refine L_nil ?_
          refine heldK Sl.au (fun hS => ?_)
          refine D_more (S' := fun W => (fun W => Sl W v7 1 42 NL) W ∧ (fun W => Sl W v52 1 42 NL) W) (fun W h => h.1) ⟨hS, Sl.au⟩ (fun hS => ?_)
          refine D_g 11 rfl (fun W hW => r_ix Tryd.underlying33 (show _ = some 1 from rfl) (by conv => lhs; whnf) rfl (by first | exact hW.2 | (have hW := hW.1; first | exact hW | exact hW.1 | exact hW.2))) ?_
          refine D_g 12 rfl (fun W hW => r_loadSl rfl rfl (by first | exact hW.2 | (have hW := hW.1; first | exact hW | exact hW.1 | exact hW.2)) (by first | exact hs | exact hs2)) ?_
          refine D_g 17 rfl (fun W hW => r_eqls rfl rfl) ?_
          refine D_t 18 rfl (fun W hW => r_pf rfl rfl) ?_
          refine D_t 19 rfl (fun W hW => r_ab rfl) ?_
          refine D_done (by kernel_rfl) ?_
          refine W_ret ?_
          refine ret1 (v := .bool _) rfl rfl ?_
          refine ⟨?_, Ch.au⟩
          first
          | rfl
          | exact congrArg Value.bool (decide_eq_true rfl)
end Go.Proofs.YtioonbfinnigpaaDoor

