/- The statement CodeBoth, walked. -/
import Derived.Test.YtioonbfinnigpaaGreatDoorCodeL5
namespace Go.Proofs.YtioonbfinnigpaaGreatDoor
open Go Go.RowKit
set_option linter.unusedVariables false
set_option linter.unusedSimpArgs false
set_option maxRecDepth 100000
theorem showB_few : ∀ (z : List Ins) (s : ByteArray), (∀ x ∈ z, (-9223372036854775808 ≤ x.n ∧ x.n ≤ 9223372036854775807) ∧ x.op.size ≤ 300 ∧ x.s.size ≤ 300) → (showB z s).size ≤ s.size + 623 * z.length
  | [], s, _ => by simp [showB]
  | x :: z, s, h => by
    have ih := showB_few z (s ++ linF x) fun y hy => h y (List.mem_cons_of_mem _ hy)
    have hx := h x List.mem_cons_self
    have := linF_size hx.1
    have := hx.2
    rw [ByteArray.size_append] at ih
    show (showB z (s ++ linF x)).size ≤ _
    rw [List.length_cons]; omega
set_option maxHeartbeats 2000000 in
theorem CodeBoth_n (v : Value) (z : List Ins) (w0 : World) (hv : Sl w0 v 3 z.length (cellsI z)) (hzn : ∀ x ∈ z, -9223372036854775808 ≤ x.n ∧ x.n ≤ 9223372036854775807) (hL : Lv w0 ∧ Ev w0.heap.size w0) : Does Tryz.prog 5 #[v] w0 (fun r w' => r = .bool true ∧ Nw w0 w') := by
  have hG := fun W (c : Nw w0 W) => hL.1.gv.nw c (Nat.le_refl _)
  have hF := fun W (c : Nw w0 W) => hL.1.fv.nw c (Nat.le_refl _)
  have hE := fun W (c : Nw w0 W) => hL.2.nw c (Nat.le_refl _)
  refine fn_of (n := 80) (args := [v]) Tryz.func5 rfl rfl rfl ?_
  refine W_seq ?_
  refine W_region ?_
  refine L_r (r_ab rfl) ?_
  refine L_nil ?_
  refine W_seq ?_
  refine W_seq ?_
  refine W_region ?_
  refine L_r (r_mv) ?_
  refine L_call (.plain rfl) rfl rfl (r_call Tryz.func6 rfl rfl rfl (by rfl)) (few_walk v z _ Sl.au) ?_
  rintro v14 w1 ⟨b, rfl, hfew, c1⟩
  have hz1 := c1.size
  refine L_r (r_not rfl) ?_
  refine L_r (r_mb rfl) ?_
  refine L_caseb (d := 16) rfl (fun h16 => ?_) (fun h16 => ?_)
  · refine L_ps ?_
    refine L_ps ?_
    refine L_ps ?_
    refine L_r (r_pt rfl rfl) ?_
    refine L_r (r_mb rfl) ?_
    refine L_ps ?_
    refine L_ps ?_
    refine L_ps ?_
    refine L_r (r_pt rfl rfl) ?_
    refine L_nil ?_
    refine W_true rfl ?_
    refine W_seq ?_
    refine W_region ?_
    refine L_call (.plain rfl) rfl rfl (r_call Tryz.func8 rfl rfl rfl (by rfl)) (awake04_walk w0.heap.size _ (hG _ Ch.au) (hF _ Ch.au) (by omega)) ?_
    rintro v26 w2 ⟨rfl, c2⟩
    have hz2 := c2.size
    refine L_r (r_ab rfl) ?_
    refine L_nil ?_
    refine W_ret ?_
    refine ret1 (v := .bool _) rfl rfl ?_
    refine ⟨?_, Ch.au⟩
    first
    | rfl
    | exact congrArg Value.bool (decide_eq_true rfl)
  · have hfw := hfew (by simpa using h16)
    have hsz : ∀ x ∈ z, (-9223372036854775808 ≤ x.n ∧ x.n ≤ 9223372036854775807) ∧ x.s.size ≤ 1000 := fun x hx => ⟨hzn x hx, by have := (hfw.2 x hx).2; omega⟩
    have hsR : ∀ x ∈ z, insR x := fun x hx => ⟨hzn x hx, by have := (hfw.2 x hx).1; omega, by have := (hfw.2 x hx).2; omega⟩
    have hl250 := hfw.1
    have hpl := putL_len hsz (by omega)
    have hsf := showB_few z { data := #[] } (fun x hx => ⟨hzn x hx, hfw.2 x hx⟩)
    have h0s : ({ data := #[] } : ByteArray).size = 0 := rfl
    refine L_g (r_mv) ?_
    refine L_g (r_lenSl Tryz.underlying22 (by conv => lhs; whnf) Sl.au) ?_
    refine L_g (r_gtr rfl rfl) ?_
    refine L_r (r_pf rfl rfl) ?_
    refine L_r (r_mb rfl) ?_
    refine L_case (d := 21) rfl (fun h21 => ?_) (fun h21 => ?_)
    · refine L_ps ?_
      refine L_ps ?_
      refine L_ps ?_
      refine L_r (r_pt rfl rfl) ?_
      refine L_nil ?_
      refine W_true rfl ?_
      refine W_seq ?_
      refine W_region ?_
      refine L_call (.plain rfl) rfl rfl (r_call Tryz.func8 rfl rfl rfl (by rfl)) (awake04_walk w0.heap.size _ (hG _ Ch.au) (hF _ Ch.au) (by omega)) ?_
      rintro v26 w3 ⟨rfl, c3⟩
      have hz3 := c3.size
      refine L_r (r_ab rfl) ?_
      refine L_nil ?_
      refine W_ret ?_
      refine ret1 (v := .bool _) rfl rfl ?_
      refine ⟨?_, Ch.au⟩
      first
      | rfl
      | exact congrArg Value.bool (decide_eq_true rfl)
    · refine L_g (r_mv) ?_
      refine L_call (.yes 8 false rfl rfl) rfl rfl (r_call Tryz.func7 rfl rfl rfl (by rfl)) (rall04_walk v z _ Sl.au (by omega) (fun x hx => by have := (hsz x hx).2; omega)) ?_
      rintro v23 w4 ⟨rfl, c4⟩
      have hz4 := c4.size
      refine L_g (r_neq rfl rfl) ?_
      refine L_r (r_pf rfl rfl) ?_
      refine L_nil ?_
      refine W_if rfl (fun h25 => ?_) (fun h25 => ?_)
      · refine W_seq ?_
        refine W_region ?_
        refine L_call (.plain rfl) rfl rfl (r_call Tryz.func8 rfl rfl rfl (by rfl)) (awake04_walk w0.heap.size _ (hG _ Ch.au) (hF _ Ch.au) (by omega)) ?_
        rintro v26 w5 ⟨rfl, c5⟩
        have hz5 := c5.size
        refine L_r (r_ab rfl) ?_
        refine L_nil ?_
        refine W_ret ?_
        refine ret1 (v := .bool _) rfl rfl ?_
        refine ⟨?_, Ch.au⟩
        first
        | rfl
        | exact congrArg Value.bool (decide_eq_true rfl)
      · have ha : allI z = 0 := Classical.not_not.1 h25
        have hrs := read_show ha hzn
        obtain ⟨hk1, hk2⟩ := puts_get ha hsz (by omega)
        refine W_skip ?_
        refine W_seq ?_
        refine W_region ?_
        refine L_build0 (sz := 3) Tryz.underlying22 rfl (.plain rfl) rfl (fun v28 w6 ho28 eb6 nl28 hs6 c6 => ?_)
        refine L_r (r_mv) ?_
        refine L_apow Tryz.underlying22 ins_info rfl (by decide) (.plain rfl) rfl (by conv => lhs; whnf) (by conv => lhs; whnf) Ow.au Sl.au (cellsI_one z) (by unfold maxLen; omega) (by omega) (by omega) (fun v30 w7 ho30 c7 hob30 => ?_)
        have hz7 := c7.size
        simp only [Nat.zero_add, List.nil_append] at ho30
        refine L_call (.plain rfl) rfl rfl (r_call Tryz.func18 rfl rfl rfl (by rfl)) (show_walk w0.heap.size v30 z _ (hG _ Ch.au) (hF _ Ch.au) (by omega) Sl.au (by omega) hsR) ?_
        rintro v31 w8 ⟨rfl, c8⟩
        have hz8 := c8.size
        rw [if_pos ha, ha]
        refine L_r (r_mv) ?_
        refine L_r (r_ext2_0 rfl) ?_
        refine L_r (r_ext2_1 rfl) ?_
        refine L_r (r_as rfl) ?_
        refine L_r (r_ai rfl) ?_
        refine L_nil ?_
        refine W_seq ?_
        refine W_region ?_
        refine L_r (r_ms rfl) ?_
        refine L_call (.plain rfl) rfl rfl (r_call Tryz.func19 rfl rfl rfl (by rfl)) (iread_walk w0.heap.size _ _ (hG _ Ch.au) (hF _ Ch.au) (hE _ Ch.au) (by omega) (by omega)) ?_
        rintro v36 w9 ⟨vr, er, rfl, _, hry, c9⟩
        have hz9 := c9.size
        obtain ⟨her, hO1⟩ := hry z hrs
        subst her
        refine L_r (r_mv) ?_
        refine L_r (r_ext2_0 rfl) ?_
        refine L_r (r_ext2_1 rfl) ?_
        refine L_r (r_av) ?_
        refine L_r (r_ai rfl) ?_
        refine L_nil ?_
        refine W_seq ?_
        refine W_region ?_
        refine L_r (r_mv) ?_
        refine L_call (.plain rfl) rfl rfl (r_call Tryz.func16 rfl rfl rfl (by rfl)) (iput_walk w0.heap.size _ z _ (hG _ Ch.au) (by omega) Sl.au (by omega) hsz) ?_
        rintro v41 w10 ⟨vp, rfl, hpn, hpy, c10⟩
        have hz10 := c10.size
        rw [ha]
        have hBy : By _ _ (putL z) := Ow.sl (hpy ha)
        refine L_r (r_mv) ?_
        refine L_r (r_ext2_0 rfl) ?_
        refine L_r (r_ext2_1 rfl) ?_
        refine L_r (r_av) ?_
        refine L_r (r_ai rfl) ?_
        refine L_nil ?_
        refine W_seq ?_
        refine W_region ?_
        refine L_r (r_mv) ?_
        refine L_call (.plain rfl) rfl rfl (r_call Tryz.func17 rfl rfl rfl (by rfl)) (iget_walk w0.heap.size _ (putL z) _ (hG _ Ch.au) (by omega) Sl.au (by omega)) ?_
        rintro v46 w11 ⟨vg, eg, rfl, _, hgy, c11⟩
        have hz11 := c11.size
        obtain ⟨heg, hO2⟩ := hgy hk1
        subst heg
        rw [hk2] at hO2
        refine L_r (r_mv) ?_
        refine L_r (r_ext2_0 rfl) ?_
        refine L_r (r_ext2_1 rfl) ?_
        refine L_r (r_av) ?_
        refine L_r (r_ai rfl) ?_
        refine L_nil ?_
        refine W_seq ?_
        refine W_region ?_
        refine L_r (r_mv) ?_
        refine L_call (.plain rfl) rfl rfl (r_call Tryz.func18 rfl rfl rfl (by rfl)) (show_walk w0.heap.size _ z _ (hG _ Ch.au) (hF _ Ch.au) (by omega) Sl.au (by omega) hsR) ?_
        rintro v51 w12 ⟨rfl, c12⟩
        have hz12 := c12.size
        rw [if_pos ha, ha]
        refine L_r (r_mv) ?_
        refine L_r (r_ext2_0 rfl) ?_
        refine L_r (r_ext2_1 rfl) ?_
        refine L_r (r_as rfl) ?_
        refine L_r (r_ai rfl) ?_
        refine L_nil ?_
        refine W_seq ?_
        refine W_region ?_
        refine L_call (.plain rfl) rfl rfl (r_call Tryz.func8 rfl rfl rfl (by rfl)) (awake04_walk w0.heap.size _ (hG _ Ch.au) (hF _ Ch.au) (by omega)) ?_
        rintro v54 w13 ⟨rfl, c13⟩
        have hz13 := c13.size
        refine L_r (r_mb rfl) ?_
        refine L_as (v := .bool _) (v' := .bool true) 55 rfl (congrArg Value.bool (by rfl)) ?_
        refine L_g (r_mi rfl) ?_
        refine L_g (r_eql rfl rfl) ?_
        refine L_as (v := .bool _) (v' := .bool true) 57 rfl (dec_t (by rfl)).symm ?_
        refine L_r (r_pt rfl rfl) ?_
        refine L_r (r_mb rfl) ?_
        refine L_g (r_mi rfl) ?_
        refine L_g (r_eql rfl rfl) ?_
        refine L_as (v := .bool _) (v' := .bool true) 61 rfl (dec_t (by rfl)).symm ?_
        refine L_r (r_pt rfl rfl) ?_
        refine L_r (r_mb rfl) ?_
        refine L_g (r_mi rfl) ?_
        refine L_g (r_eql rfl rfl) ?_
        refine L_as (v := .bool _) (v' := .bool true) 65 rfl (dec_t (by rfl)).symm ?_
        refine L_r (r_pt rfl rfl) ?_
        refine L_r (r_mb rfl) ?_
        refine L_g (r_mi rfl) ?_
        refine L_g (r_eql rfl rfl) ?_
        refine L_as (v := .bool _) (v' := .bool true) 69 rfl (dec_t (by rfl)).symm ?_
        refine L_r (r_pt rfl rfl) ?_
        refine L_r (r_mb rfl) ?_
        refine L_g (r_mi rfl) ?_
        refine L_g (r_eql rfl rfl) ?_
        refine L_as (v := .bool _) (v' := .bool true) 73 rfl (dec_t (by rfl)).symm ?_
        refine L_r (r_pt rfl rfl) ?_
        refine L_r (r_mb rfl) ?_
        refine L_g (r_ms rfl) ?_
        refine L_g (r_ms rfl) ?_
        refine L_g (r_eqls rfl rfl) ?_
        refine L_r (r_pt rfl rfl) ?_
        refine L_r (r_ab rfl) ?_
        refine L_nil ?_
        refine W_ret ?_
        refine ret1 (v := .bool _) rfl rfl ?_
        refine ⟨?_, Ch.au⟩
        first
        | rfl
        | exact congrArg Value.bool (decide_eq_true rfl)
theorem CodeBoth_walk (v : Value) (z : List Ins) (w0 : World) (hz : Sl w0 v 3 z.length (cellsI z) ∧ ∀ x ∈ z, -9223372036854775808 ≤ x.n ∧ x.n ≤ 9223372036854775807) (hL : Lv w0 ∧ Ev w0.heap.size w0) :
    Does Tryz.prog 5 #[v] w0 (fun r w' => r = .bool true ∧ Nw w0 w') :=
  CodeBoth_n v z w0 hz.1 hz.2 hL
end Go.Proofs.YtioonbfinnigpaaGreatDoor

