/- A caller's calls, as the statements make them; the example. -/
import Derived.Test.YtjjddbicggfgnaaCalR
namespace Go.Proofs.Ytjjddbicggfgnaa
open Go Go.RowKit
set_option linter.unusedVariables false
set_option linter.unusedSimpArgs false
set_option maxRecDepth 100000
/-- A caller, wherever its parts are. -/
def CalX (base : Nat) (F : Nat → Prop) (w : World) (b : Nat) (C : Cal) : Prop := C.Good ∧ ∃ bm vo vr g, CalAt base F w b bm vo vr g C
/-- Not too much. -/
def Cal.Lim (C : Cal) (n : Nat) : Prop := C.last ≤ n ∧ C.op.length ≤ n ∧ C.out.length ≤ 800 * n ∧ C.res.length ≤ 800 * n
variable {base : Nat} {F : Nat → Prop} {w w' : World} {b n : Nat} {C D : Cal}
theorem CalX.ch {X : Nat → Prop} (h : CalX base F w b C) (c : Ch X w w') (hX : ∀ j, F j → ¬ X j) : CalX base F w' b C := by
  obtain ⟨hG, bm, vo, vr, g, hA⟩ := h
  exact ⟨hG, bm, vo, vr, g, hA.ch c hX⟩
theorem CalX.nw (h : CalX base F w b C) (c : Nw w w') : CalX base F w' b C := h.ch c fun _ _ => not_no
theorem CalX.good (h : CalX base F w b C) : C.Good := h.1
theorem CalX.lt (h : CalX base F w b C) : ∀ j, F j → base ≤ j ∧ j < w.heap.size := by
  obtain ⟨hG, bm, vo, vr, g, hA⟩ := h
  exact hA.fF
theorem Cal.Lim.mono {m : Nat} (h : C.Lim n) (hm : n ≤ m) : C.Lim m := by
  obtain ⟨h1, h2, h3, h4⟩ := h
  exact ⟨by omega, by omega, by omega, by omega⟩
theorem Cal.Lim.out0 (h : C.Lim n) : ({ C with out := [] } : Cal).Lim n := ⟨h.1, h.2.1, Nat.zero_le _, h.2.2.2⟩
theorem Cal.Good.out0 (h : C.Good) : ({ C with out := [] } : Cal).Good := h.of rfl rfl rfl rfl
theorem Cal.Lim.tick (h : C.Lim n) (hn : n ≤ 800) : (tick C).Lim (n + 1) := by
  have ht := ticks_len C (C.op.map (·.1))
  rw [List.length_map] at ht
  have hl : ∀ (l : List Int) (C : Cal), (l.foldl tick1 C).last = C.last := by
    intro l
    induction l with
    | nil => exact fun C => rfl
    | cons k l ih =>
      intro C
      rw [List.foldl_cons, ih]
      unfold tick1
      split
      · rfl
      · split
        · rfl
        · split <;> rfl
  have h5 := hl (C.op.map (·.1)) C
  obtain ⟨h1, h2, h3, h4⟩ := h
  refine ⟨?_, ?_, ?_, ?_⟩ <;> (unfold Go.Proofs.Ytjjddbicggfgnaa.tick; omega)
theorem Cal.Lim.call (h : C.Lim n) (object : Int) (method body : ByteArray) : (callC C object method body).1.Lim (n + 1) := by
  have h' := h.mono (Nat.le_succ n)
  unfold callC
  split
  · exact h'
  · split
    · exact h'
    · obtain ⟨h1, h2, h3, h4⟩ := h
      refine ⟨by show C.last + 1 ≤ _; omega, ?_, ?_, by show C.res.length ≤ _; omega⟩
      · show (mupd (C.op ++ [_]) _ _).length ≤ _
        rw [mupd_len, List.length_append]; simp; omega
      · show (C.out ++ [_]).length ≤ _
        simp; omega
theorem Cal.Lim.recv (h : C.Lim n) (m : Msg) : (recvC C m).1.Lim (n + 1) := by
  have h' := h.mono (Nat.le_succ n)
  unfold recvC
  split
  · exact h'
  · obtain ⟨h1, h2, h3, h4⟩ := h
    refine ⟨by show C.last ≤ _; omega, ?_, by show C.out.length ≤ _; omega, ?_⟩
    · show (mdel C.op _).length ≤ _
      unfold mdel; exact Nat.le_trans (List.length_filter_le _ _) (by omega)
    · show (C.res ++ [_]).length ≤ _
      simp; omega
theorem new_use (life wait most : Int) (w0 : World) (hn : life ≠ 0 ∧ 1 ≤ wait ∧ wait ≤ 1000 ∧ 1 ≤ most ∧ most ≤ 1000) : Does Try.prog 9 #[.int .u64 life, .int .i64 wait, .int .i64 most] w0 (fun r w' => ∃ b F, r = .tuple #[.pointer (some ⟨b, 0, none⟩), .int .i64 0] ∧ CalX w0.heap.size F w' b (cal0 life wait most) ∧ (∀ j, F j → w0.heap.size ≤ j) ∧ Nw w0 w') := by
  refine (new_walk life wait most w0 hn).mono ?_
  rintro r w' ⟨b, bm, h1, h2, h3⟩
  exact ⟨b, _, h1, ⟨cal0_good hn.2, _, _, _, _, h2⟩, fun j hj => hj.1, h3⟩
theorem call_use (base : Nat) (F : Nat → Prop) (b n : Nat) (C : Cal) (object : Int) (method body : ByteArray) (w0 : World) (hC : CalX base F w0 b C) (hl : C.Lim n) (hn : n ≤ 800) (hbs : base ≤ w0.heap.size) :
    Does Try.prog 11 #[.pointer (some ⟨b, 0, none⟩), .int .u64 object, .string method, .string body] w0 (fun r w' => ∃ F', r = .tuple #[.int .u64 (callC C object method body).2.1, .int .i64 (callC C object method body).2.2] ∧ CalX base F' w' b (callC C object method body).1 ∧ (callC C object method body).1.Lim (n + 1) ∧ (∀ j, F' j → F j ∨ w0.heap.size ≤ j) ∧ CalC base F w0 w') := by
  obtain ⟨hG, bm, vo, vr, g, hA⟩ := hC
  have hll := hl.1; have h2 := hl.2.1; have h3 := hl.2.2.1; have h4 := hl.2.2.2
  refine (call_walk base F b bm vo vr g C object method body w0 hA hG (by omega) (by omega) (by omega) (by omega) hbs).mono ?_
  rintro r w' ⟨vo', g', h1, h2, h3⟩
  exact ⟨_, h1, ⟨hG.call_ (by omega) _ _ _, _, _, _, _, h2⟩, hl.call _ _ _, fun j hj => hj.elim .inl (fun h => .inr h.1), h3⟩
theorem tick_use (base : Nat) (F : Nat → Prop) (b n : Nat) (C : Cal) (w0 : World) (hC : CalX base F w0 b C) (hl : C.Lim n) (hn : n ≤ 800) (hbs : base ≤ w0.heap.size) :
    Does Try.prog 14 #[.pointer (some ⟨b, 0, none⟩)] w0 (fun r w' => ∃ F', r = .tuple #[] ∧ CalX base F' w' b (tick C) ∧ (tick C).Lim (n + 1) ∧ (∀ j, F' j → F j ∨ w0.heap.size ≤ j) ∧ CalC base F w0 w') := by
  obtain ⟨hG, bm, vo, vr, g, hA⟩ := hC
  have hll := hl.1; have h2 := hl.2.1; have h3 := hl.2.2.1; have h4 := hl.2.2.2
  refine (tick_walk base F b bm vo vr g C w0 hA hG (by omega) (by omega) (by omega) hbs).mono ?_
  rintro r w' ⟨vo', vr', h1, h2, h3⟩
  exact ⟨_, h1, ⟨hG.tick_, _, _, _, _, h2⟩, hl.tick hn, fun j hj => hj.elim .inl (fun h => .inr h.1), h3⟩
theorem recv_use (base : Nat) (F : Nat → Prop) (b n : Nat) (C : Cal) (m : Msg) (w0 : World) (hC : CalX base F w0 b C) (hl : C.Lim n) (hn : n ≤ 800) (hbs : base ≤ w0.heap.size) :
    Does Try.prog 19 #[.pointer (some ⟨b, 0, none⟩), m.v] w0 (fun r w' => ∃ F', r = .bool (recvC C m).2 ∧ CalX base F' w' b (recvC C m).1 ∧ (recvC C m).1.Lim (n + 1) ∧ (∀ j, F' j → F j ∨ w0.heap.size ≤ j) ∧ CalC base F w0 w') := by
  obtain ⟨hG, bm, vo, vr, g, hA⟩ := hC
  have hll := hl.1; have h2 := hl.2.1; have h3 := hl.2.2.1; have h4 := hl.2.2.2
  refine (recv_walk base F b bm vo vr g C m w0 hA (by omega) (by omega) hbs).mono ?_
  rintro r w' ⟨vr', h1, h2, h3⟩
  exact ⟨_, h1, ⟨hG.recv_ m, _, _, _, _, h2⟩, hl.recv m, fun j hj => hj.elim .inl (fun h => .inr h.1), h3⟩
theorem out_use (base : Nat) (F : Nat → Prop) (b : Nat) (C : Cal) (w0 : World) (hC : CalX base F w0 b C) :
    Does Try.prog 12 #[.pointer (some ⟨b, 0, none⟩)] w0 (fun r w' => ∃ v F', r = v ∧ Ow w' base 33 8 v C.out.length (cellsM C.out) ∧ CalX base F' w' b { C with out := [] } ∧ (∀ j, F' j → F j) ∧ (∀ j, v.ownBlock = some j → ¬ F' j) ∧ CalC base F w0 w') := by
  obtain ⟨hG, bm, vo, vr, g, hA⟩ := hC
  refine (out_walk base F b bm vo vr g C w0 hA).mono ?_
  rintro r w' ⟨h1, h2, h3, h4, h5⟩
  exact ⟨_, _, h1, h3, ⟨hG.out0, _, _, _, _, h4⟩, fun j hj => hj.1, fun j hj h => h.2 hj, h5⟩
theorem results_use (base : Nat) (F : Nat → Prop) (b : Nat) (C : Cal) (w0 : World) (hC : CalX base F w0 b C) (hl : C.res.length ≤ 1000000) :
    Does Try.prog 13 #[.pointer (some ⟨b, 0, none⟩)] w0 (fun r w' => ∃ v, r = v ∧ Ow w' w0.heap.size 58 3 v C.res.length (cellsT C.res) ∧ Nw w0 w') := by
  obtain ⟨hG, bm, vo, vr, g, hA⟩ := hC
  exact results_walk base F b bm vo vr g C w0 hA hl
theorem open_use (base : Nat) (F : Nat → Prop) (b : Nat) (C : Cal) (w0 : World) (hC : CalX base F w0 b C) :
    Does Try.prog 21 #[.pointer (some ⟨b, 0, none⟩)] w0 (fun r w' => r = .int .i64 (C.op.length : Int) ∧ w' = w0) := by
  obtain ⟨hG, bm, vo, vr, g, hA⟩ := hC
  exact open_walk base F b bm vo vr g C w0 hA
theorem life_use (base : Nat) (F : Nat → Prop) (b : Nat) (C : Cal) (w0 : World) (hC : CalX base F w0 b C) :
    Does Try.prog 15 #[.pointer (some ⟨b, 0, none⟩)] w0 (fun r w' => r = .int .u64 C.life ∧ w' = w0) := by
  obtain ⟨hG, bm, vo, vr, g, hA⟩ := hC
  exact life_walk base F b bm vo vr g C w0 hA
theorem below_x (base : Nat) (F : Nat → Prop) (b : Nat) (C : Cal) (w0 : World) (hC : CalX base F w0 b C) (hl : C.op.length ≤ 100000) :
    Does Try.prog 23 #[.pointer (some ⟨b, 0, none⟩)] w0 (fun r w' => r = .int .u64 (belowC C) ∧ Nw w0 w') := by
  obtain ⟨hG, bm, vo, vr, g, hA⟩ := hC
  exact below_use base F b bm vo vr g C w0 hA hG hl
/-! the example -/
abbrev awM : Msg := ⟨0, 1, 1, 1, 0, { data := #[103, 111] }, 0, { data := #[120] }⟩
def awC1 : Cal := ⟨1, 2, 2, 1, [(1, ⟨awM, 0, 1⟩)], [awM], []⟩
def awC2 : Cal := ⟨1, 2, 2, 1, [(1, ⟨awM, 0, 1⟩)], [], []⟩
def awC3 : Cal := ⟨1, 2, 2, 1, [(1, ⟨awM, 1, 1⟩)], [], []⟩
def awC4 : Cal := ⟨1, 2, 2, 1, [(1, ⟨awM, 0, 2⟩)], [awM], []⟩
def awC5 : Cal := ⟨1, 2, 2, 1, [(1, ⟨awM, 0, 2⟩)], [], []⟩
def awC6 : Cal := ⟨1, 2, 2, 1, [(1, ⟨awM, 1, 2⟩)], [], []⟩
def awC7 : Cal := ⟨1, 2, 2, 1, [], [], [⟨1, 3, { data := #[] }⟩]⟩
theorem aw1 : callC (cal0 1 2 2) 0 { data := #[103, 111] } { data := #[120] } = (awC1, 1, 0) := by kernel_rfl
theorem aw2 : ({ awC1 with out := [] } : Cal) = awC2 := by kernel_rfl
theorem aw3 : tick awC2 = awC3 := by kernel_rfl
theorem aw4 : tick awC3 = awC4 := by kernel_rfl
theorem aw5 : ({ awC4 with out := [] } : Cal) = awC5 := by kernel_rfl
theorem aw6 : tick awC5 = awC6 := by kernel_rfl
theorem aw7 : tick awC6 = awC7 := by kernel_rfl
theorem aw8 : ({ awC7 with out := [] } : Cal) = awC7 := by kernel_rfl
theorem lim0 (life wait most : Int) : (cal0 life wait most).Lim 0 := ⟨Int.le_refl _, Nat.le_refl _, Nat.le_refl _, Nat.le_refl _⟩
set_option maxHeartbeats 4000000 in
theorem awake_walk  (w0 : World) : Does Try.prog 10 #[] w0 (fun r w' => r = .bool true ∧ Nw w0 w') := by
  refine fn_of (n := 78) (args := []) Try.func10 rfl rfl rfl ?_
  refine W_seq ?_
  refine W_region ?_
  refine L_r (r_ab rfl) ?_
  refine L_nil ?_
  refine W_seq ?_
  refine W_region ?_
  refine L_call (.plain rfl) rfl rfl (r_call Try.func9 rfl rfl rfl (by rfl)) (new_use 1 2 2 _ (by decide)) ?_
  rintro v8 w1 ⟨b, F0, rfl, hX0, hF0, c1⟩
  have hz1 := c1.size
  have hl0 := lim0 1 2 2
  refine L_r (r_mv) ?_
  refine L_r (r_ext2_0 rfl) ?_
  refine L_r (r_ext2_1 rfl) ?_
  refine L_r (r_ap rfl) ?_
  refine L_r (r_ai rfl) ?_
  refine L_nil ?_
  refine W_seq ?_
  refine W_seq ?_
  refine W_region ?_
  refine L_r (r_mi rfl) ?_
  refine L_r (r_neq rfl rfl) ?_
  refine L_as (v := .bool _) (v' := .bool false) 12 rfl (dec_f (by decide)).symm ?_
  refine L_r (r_mb rfl) ?_
  refine L_g (r_mp rfl) ?_
  refine L_g (r_eqpnil Try.underlying22 rfl rfl) ?_
  refine L_r (r_pf rfl rfl) ?_
  refine L_as (v := .bool _) (v' := .bool false) 16 rfl (congrArg Value.bool (by rfl)) ?_
  refine L_nil ?_
  refine W_false rfl ?_
  refine W_skip ?_
  refine W_seq ?_
  refine W_region ?_
  refine L_r (r_mp rfl) ?_
  refine L_call (.plain rfl) rfl rfl (r_call Try.func11 rfl rfl rfl (by rfl)) (call_use _ F0 b 0 _ 0 { data := #[103, 111] } { data := #[120] } _ (hX0.nw Ch.au) hl0 (by omega) (by omega)) ?_
  rintro v19 w2 ⟨F1, rfl, hX1, hl1, hF1, c2⟩
  have hz2 := c2.size
  rw [aw1] at hX1 hl1 ⊢
  refine L_r (r_mv) ?_
  refine L_r (r_ext2_0 rfl) ?_
  refine L_r (r_ext2_1 rfl) ?_
  refine L_r (r_ai rfl) ?_
  refine L_r (r_ai rfl) ?_
  refine L_nil ?_
  refine W_seq ?_
  refine W_region ?_
  refine L_r (r_mp rfl) ?_
  refine L_call (.plain rfl) rfl rfl (r_call Try.func12 rfl rfl rfl (by rfl)) (out_use _ F1 b awC1 _ (hX1.nw Ch.au)) ?_
  rintro v23 w3 ⟨v1, F2, rfl, ho1, hX2, hF2, hd1, c3⟩
  have hz3 := c3.size
  rw [aw2] at hX2
  have hl2 : awC2.Lim 1 := hl1.out0
  refine L_r (r_lenSl Try.underlying30 (by conv => lhs; whnf) Sl.au) ?_
  refine L_r (r_ai rfl) ?_
  refine L_nil ?_
  refine W_seq ?_
  refine W_region ?_
  refine L_r (r_mp rfl) ?_
  refine L_call (.plain rfl) rfl rfl (r_call Try.func14 rfl rfl rfl (by rfl)) (tick_use _ F2 b 1 awC2 _ (hX2.nw Ch.au) hl2 (by omega) (by omega)) ?_
  rintro v26 w4 ⟨F3, rfl, hX3, hl3, hF3, c4⟩
  have hz4 := c4.size
  rw [aw3] at hX3 hl3
  refine L_nil ?_
  refine W_seq ?_
  refine W_region ?_
  refine L_r (r_mp rfl) ?_
  refine L_call (.plain rfl) rfl rfl (r_call Try.func14 rfl rfl rfl (by rfl)) (tick_use _ F3 b 2 awC3 _ (hX3.nw Ch.au) hl3 (by omega) (by omega)) ?_
  rintro v28 w5 ⟨F4, rfl, hX4, hl4, hF4, c5⟩
  have hz5 := c5.size
  rw [aw4] at hX4 hl4
  refine L_nil ?_
  refine W_seq ?_
  refine W_region ?_
  refine L_r (r_mp rfl) ?_
  refine L_call (.plain rfl) rfl rfl (r_call Try.func12 rfl rfl rfl (by rfl)) (out_use _ F4 b awC4 _ (hX4.nw Ch.au)) ?_
  rintro v30 w6 ⟨v2, F5, rfl, ho2, hX5, hF5, hd2, c6⟩
  have hz6 := c6.size
  rw [aw5] at hX5
  have hl5 : awC5.Lim 3 := hl4.out0
  refine L_r (r_lenSl Try.underlying30 (by conv => lhs; whnf) Sl.au) ?_
  refine L_r (r_ai rfl) ?_
  refine L_nil ?_
  refine W_seq ?_
  refine W_region ?_
  refine L_r (r_mp rfl) ?_
  refine L_call (.plain rfl) rfl rfl (r_call Try.func14 rfl rfl rfl (by rfl)) (tick_use _ F5 b 3 awC5 _ (hX5.nw Ch.au) hl5 (by omega) (by omega)) ?_
  rintro v33 w7 ⟨F6, rfl, hX6, hl6, hF6, c7⟩
  have hz7 := c7.size
  rw [aw6] at hX6 hl6
  refine L_nil ?_
  refine W_seq ?_
  refine W_region ?_
  refine L_r (r_mp rfl) ?_
  refine L_call (.plain rfl) rfl rfl (r_call Try.func14 rfl rfl rfl (by rfl)) (tick_use _ F6 b 4 awC6 _ (hX6.nw Ch.au) hl6 (by omega) (by omega)) ?_
  rintro v35 w8 ⟨F7, rfl, hX7, hl7, hF7, c8⟩
  have hz8 := c8.size
  rw [aw7] at hX7 hl7
  refine L_nil ?_
  refine W_seq ?_
  refine W_region ?_
  refine L_r (r_mi rfl) ?_
  refine L_r (r_eql rfl rfl) ?_
  refine L_as (v := .bool _) (v' := .bool true) 37 rfl (dec_t (by rfl)).symm ?_
  refine L_r (r_mb rfl) ?_
  refine L_g (r_mi rfl) ?_
  refine L_g (r_eql rfl rfl) ?_
  refine L_as (v := .bool _) (v' := .bool true) 40 rfl (dec_t (by rfl)).symm ?_
  refine L_r (r_pt rfl rfl) ?_
  refine L_r (r_mb rfl) ?_
  refine L_g (r_mi rfl) ?_
  refine L_g (r_eql rfl rfl) ?_
  refine L_as (v := .bool _) (v' := .bool true) 44 rfl (dec_t (by rfl)).symm ?_
  refine L_r (r_pt rfl rfl) ?_
  refine L_r (r_mb rfl) ?_
  refine L_g (r_mi rfl) ?_
  refine L_g (r_eql rfl rfl) ?_
  refine L_as (v := .bool _) (v' := .bool true) 48 rfl (dec_t (by rfl)).symm ?_
  refine L_r (r_pt rfl rfl) ?_
  refine L_r (r_mb rfl) ?_
  refine L_g (r_mp rfl) ?_
  refine L_call (.yes 14 true rfl rfl) rfl rfl (r_call Try.func12 rfl rfl rfl (by rfl)) (out_use _ F7 b awC7 _ (hX7.nw Ch.au)) ?_
  rintro v52 w9 ⟨v3, F8, rfl, ho3, hX8, hF8, hd3, c9⟩
  have hz9 := c9.size
  rw [aw8] at hX8
  refine L_g (r_lenSl Try.underlying30 (by conv => lhs; whnf) Sl.au) ?_
  refine L_g (r_eql rfl rfl) ?_
  refine L_as (v := .bool _) (v' := .bool true) 54 rfl (dec_t (by rfl)).symm ?_
  refine L_r (r_pt rfl rfl) ?_
  refine L_r (r_mb rfl) ?_
  refine L_g (r_mp rfl) ?_
  refine L_call (.yes 20 true rfl rfl) rfl rfl (r_call Try.func13 rfl rfl rfl (by rfl)) (results_use _ F8 b awC7 _ (hX8.nw Ch.au) (show 1 ≤ 1000000 by decide)) ?_
  rintro v58 w10 ⟨v4, rfl, ho4, c10⟩
  have hz10 := c10.size
  refine L_g (r_build1 (pl := [(0, 1), (1, 1), (2, 1)]) (vs := [(0, .int _ _), (1, .int _ _)]) (cells := [_, _, _]) Try.underlying58 rfl rfl (by rfl) rfl (by rfl)) ?_
  refine L_buildrow [[_, _, _]] Try.underlying34 (show _ = some (some _, 3, _) from rfl) rfl rfl (.yes 20 true rfl rfl) rfl (by rfl) (by rfl) rfl (fun b60 w11 hb60 hv60 eb11 hs11 c11 => ?_)
  simp only [List.flatten_cons, List.flatten_nil, List.append_nil, List.cons_append, List.nil_append] at hb60 hv60
  refine L_call (.yes 20 true rfl rfl) rfl rfl (r_call Try.func25 rfl rfl rfl (by rfl)) (samer_walk _ _ [⟨1, 3, { data := #[] }⟩] _ Sl.au Sl.au (show 1 ≤ 90000000 by decide)) ?_
  rintro v61 w12 ⟨rfl, c12⟩
  have hz12 := c12.size
  refine L_as (v := .bool _) (v' := .bool true) 61 rfl (congrArg Value.bool (by rfl)) ?_
  refine L_r (r_pt rfl rfl) ?_
  refine L_r (r_mb rfl) ?_
  refine L_g (r_mp rfl) ?_
  refine L_call (.yes 27 true rfl rfl) rfl rfl (r_call Try.func21 rfl rfl rfl (by rfl)) (open_use _ F8 b awC7 _ (hX8.nw Ch.au)) ?_
  rintro v65 w13 ⟨rfl, rfl⟩
  refine L_g (r_eql rfl rfl) ?_
  refine L_as (v := .bool _) (v' := .bool true) 66 rfl (dec_t (by rfl)).symm ?_
  refine L_r (r_pt rfl rfl) ?_
  refine L_r (r_mb rfl) ?_
  refine L_g (r_mp rfl) ?_
  refine L_call (.yes 32 true rfl rfl) rfl rfl (r_call Try.func23 rfl rfl rfl (by rfl)) (below_x _ F8 b awC7 _ (hX8.nw Ch.au) (show 0 ≤ 100000 by decide)) ?_
  rintro v70 w14 ⟨rfl, c14⟩
  have hz14 := c14.size
  refine L_g (r_eql rfl rfl) ?_
  refine L_as (v := .bool _) (v' := .bool true) 71 rfl (dec_t (by rfl)).symm ?_
  refine L_r (r_pt rfl rfl) ?_
  refine L_r (r_mb rfl) ?_
  refine L_g (r_mp rfl) ?_
  refine L_call (.yes 37 true rfl rfl) rfl rfl (r_call Try.func15 rfl rfl rfl (by rfl)) (life_use _ F8 b awC7 _ (hX8.nw Ch.au)) ?_
  rintro v75 w15 ⟨rfl, rfl⟩
  refine L_g (r_eql rfl rfl) ?_
  refine L_as (v := .bool _) (v' := .bool true) 76 rfl (dec_t (by rfl)).symm ?_
  refine L_r (r_pt rfl rfl) ?_
  refine L_r (r_ab rfl) ?_
  refine L_nil ?_
  refine W_ret ?_
  refine ret1 (v := .bool _) rfl rfl ?_
  exact ⟨rfl, Ch.au⟩
end Go.Proofs.Ytjjddbicggfgnaa

