/- The statement CodePuts, walked. -/
import Derived.Test.YtioonbfinnigpaaGreatDoorCodeL4
namespace Go.Proofs.YtioonbfinnigpaaGreatDoor
open Go Go.RowKit
set_option linter.unusedVariables false
set_option linter.unusedSimpArgs false
set_option maxRecDepth 100000
theorem puts_get {z : List Ins} (ha : allI z = 0) (hs : ∀ x ∈ z, (-9223372036854775808 ≤ x.n ∧ x.n ≤ 9223372036854775807) ∧ x.s.size ≤ 1000) (hl : z.length ≤ 200) : getIs (putL z) ∧ takeL (putL z) (0, 0) = z := by
  have ht := take_put ha hs hl []
  rw [List.append_nil] at ht
  exact take_ok ht
theorem puts_many {z : List Ins} (hl : 200 < z.length) (h2 : z.length ≤ 1000000) : ¬ getIs (putL z) := by
  have ht := take_many hl h2 []
  rw [List.append_nil] at ht
  exact take_no fun y h => by rw [ht] at h; cases h
theorem putL_len {z : List Ins} (hs : ∀ x ∈ z, (-9223372036854775808 ≤ x.n ∧ x.n ≤ 9223372036854775807) ∧ x.s.size ≤ 1000) (hl : z.length ≤ 300) : (putL z).length ≤ 310000 := by
  have := put_len z hs
  have : (varL z.length).length ≤ 10 := varL_ten (by omega)
  unfold putL; rw [List.length_append]; omega
set_option maxHeartbeats 2000000 in
theorem CodePuts_n (v : Value) (z : List Ins) (w0 : World) (hv : Sl w0 v 3 z.length (cellsI z)) (hzn : ∀ x ∈ z, -9223372036854775808 ≤ x.n ∧ x.n ≤ 9223372036854775807) (hL : Lv w0) : Does Tryz.prog 4 #[v] w0 (fun r w' => r = .bool true ∧ Nw w0 w') := by
  have hG := fun W (c : Nw w0 W) => hL.gv.nw c (Nat.le_refl _)
  have hF := fun W (c : Nw w0 W) => hL.fv.nw c (Nat.le_refl _)
  refine fn_of (n := 69) (args := [v]) Tryz.func4 rfl rfl rfl ?_
  refine W_seq ?_
  refine W_region ?_
  refine L_r (r_ab rfl) ?_
  refine L_nil ?_
  refine W_seq ?_
  refine W_seq ?_
  refine W_region ?_
  refine L_r (r_mv) ?_
  refine L_call (.plain rfl) rfl rfl (r_call Tryz.func6 rfl rfl rfl (by rfl)) (few_walk v z _ Sl.au) ?_
  rintro v9 w1 ⟨b, rfl, hfew, c1⟩
  have hz1 := c1.size
  refine L_r (r_not rfl) ?_
  refine L_nil ?_
  refine W_bool rfl (fun h10 => ?_) (fun h10 => ?_)
  · refine W_seq ?_
    refine W_region ?_
    refine L_call (.plain rfl) rfl rfl (r_call Tryz.func8 rfl rfl rfl (by rfl)) (awake04_walk w0.heap.size _ (hG _ Ch.au) (hF _ Ch.au) (by omega)) ?_
    rintro v11 w2 ⟨rfl, c2⟩
    have hz2 := c2.size
    refine L_r (r_ab rfl) ?_
    refine L_nil ?_
    refine W_ret ?_
    refine ret1 (v := .bool _) rfl rfl ?_
    refine ⟨?_, Ch.au⟩
    first
    | rfl
    | exact congrArg Value.bool (decide_eq_true rfl)
    | exact congrArg Value.bool (hbb.2 rfl)
  · have hfw := hfew (by simpa using h10)
    have hsz : ∀ x ∈ z, (-9223372036854775808 ≤ x.n ∧ x.n ≤ 9223372036854775807) ∧ x.s.size ≤ 1000 := fun x hx => ⟨hzn x hx, by have := (hfw.2 x hx).2; omega⟩
    have hl250 := hfw.1
    have hpl := putL_len hsz (by omega)
    refine W_skip ?_
    refine W_seq ?_
    refine W_region ?_
    refine L_build0 (sz := 3) Tryz.underlying22 rfl (.plain rfl) rfl (fun v13 w3 ho13 eb3 nl13 hs3 c3 => ?_)
    refine L_r (r_mv) ?_
    refine L_apow Tryz.underlying22 ins_info rfl (by decide) (.plain rfl) rfl (by conv => lhs; whnf) (by conv => lhs; whnf) Ow.au Sl.au (cellsI_one z) (by unfold maxLen; omega) (by omega) (by omega) (fun v15 w4 ho15 c4 hob15 => ?_)
    have hz4 := c4.size
    simp only [Nat.zero_add, List.nil_append] at ho15
    refine L_call (.plain rfl) rfl rfl (r_call Tryz.func16 rfl rfl rfl (by rfl)) (iput_walk w0.heap.size v15 z _ (hG _ Ch.au) (by omega) Sl.au (by omega) hsz) ?_
    rintro v16 w5 ⟨vp, rfl, hpn, hpy, c5⟩
    have hz5 := c5.size
    refine L_r (r_mv) ?_
    refine L_r (r_ext2_0 rfl) ?_
    refine L_r (r_ext2_1 rfl) ?_
    refine L_r (r_av) ?_
    refine L_r (r_ai rfl) ?_
    refine L_nil ?_
    refine W_seq ?_
    refine W_seq ?_
    refine W_region ?_
    refine L_r (r_mv) ?_
    refine L_call (.plain rfl) rfl rfl (r_call Tryz.func7 rfl rfl rfl (by rfl)) (rall04_walk v z _ Sl.au (by omega) (fun x hx => by have := (hsz x hx).2; omega)) ?_
    rintro v20 w6 ⟨rfl, c6⟩
    have hz6 := c6.size
    refine L_r (r_ai rfl) ?_
    refine L_nil ?_
    refine W_seq ?_
    refine W_region ?_
    refine L_r (r_mi rfl) ?_
    refine L_r (r_neq rfl rfl) ?_
    refine L_nil ?_
    refine W_if rfl (fun h22 => ?_) (fun h22 => ?_)
    · have hvp := hpn h22
      subst hvp
      have hnil := Sl.nil w6 1
      refine W_seq ?_
      refine W_region ?_
      refine L_call (.plain rfl) rfl rfl (r_call Tryz.func8 rfl rfl rfl (by rfl)) (awake04_walk w0.heap.size _ (hG _ Ch.au) (hF _ Ch.au) (by omega)) ?_
      rintro v23 w7 ⟨rfl, c7⟩
      have hz7 := c7.size
      refine L_r (r_mb rfl) ?_
      refine L_as (v := .bool _) (v' := .bool true) 24 rfl (congrArg Value.bool (by rfl)) ?_
      refine L_g (r_mv) ?_
      refine L_g (r_lenSl Tryz.underlying30 (by conv => lhs; whnf) Sl.au) ?_
      refine L_g (r_eql rfl rfl) ?_
      refine L_as (v := .bool _) (v' := .bool true) 27 rfl (dec_t (by rfl)).symm ?_
      refine L_r (r_pt rfl rfl) ?_
      refine L_r (r_mb rfl) ?_
      refine L_g (r_mi rfl) ?_
      refine L_g (r_mi rfl) ?_
      refine L_g (r_eql rfl rfl) ?_
      refine L_r (r_pt rfl rfl) ?_
      refine L_r (r_ab rfl) ?_
      refine L_nil ?_
      refine W_ret ?_
      refine ret1 (v := .bool _) rfl rfl ?_
      refine ⟨?_, Ch.au⟩
      first
      | rfl
      | exact congrArg Value.bool (decide_eq_true rfl)
      | exact congrArg Value.bool (hbb.2 rfl)
    · have ha : allI z = 0 := Classical.not_not.1 h22
      have hBy : By _ _ (putL z) := Ow.sl (hpy ha)
      refine W_skip ?_
      refine W_seq ?_
      refine W_seq ?_
      refine W_draw (fun W => By W vp (putL z) ∧ Sl W v 3 z.length (cellsI z)) 13 (m := 13) (by kernel_rfl) rfl (fun w8 c8 hs8 => ?_)
      refine held (by exact ⟨Sl.au, Sl.au⟩) (fun hS => ?_)
      refine D_ev 0 (by kernel_rfl) rfl ?_
      refine L_call (.plain rfl) rfl rfl (r_call Tryz.func8 rfl rfl rfl (by rfl)) (awake04_walk w0.heap.size _ (hG _ Ch.au) (hF _ Ch.au) (by omega)) ?_
      rintro v34 w9 ⟨rfl, c9⟩
      have hz9 := c9.size
      refine L_nil ?_
      refine heldK (by exact ⟨Sl.au, Sl.au⟩) (fun hS => ?_)
      refine D_t 1 rfl (fun W hW => r_not rfl) ?_
      refine D_as (v := .bool _) (v' := .bool false) 35 rfl (congrArg Value.bool (by rfl)) ?_
      refine D_t 2 rfl (fun W hW => r_mb rfl) ?_
      refine D_g 3 rfl (fun W hW => r_mi rfl) ?_
      refine D_g 4 rfl (fun W hW => r_neq rfl rfl) ?_
      refine D_as (v := .bool _) (v' := .bool false) 38 rfl (dec_f (by exact h22)).symm ?_
      refine D_t 5 rfl (fun W hW => r_pf rfl rfl) ?_
      refine D_t 6 rfl (fun W hW => r_mb rfl) ?_
      refine D_g 7 rfl (fun W hW => r_mv) ?_
      refine D_g 8 rfl (fun W hW => r_bstr Tryz.underlying30 Tryz.underlying5 Tryz.underlying9 (by conv => lhs; whnf) gw) ?_
      refine D_g 9 rfl (fun W hW => r_mv) ?_
      refine D_ev 10 (by kernel_rfl) rfl ?_
      refine L_call (.yes 6 false rfl rfl) rfl rfl (r_call Tryz.func10 rfl rfl rfl (by rfl)) (rput04_walk v z _ Sl.au (by omega) hsz (all_ok ha)) ?_
      rintro v44 w10 ⟨rfl, c10⟩
      have hz10 := c10.size
      refine L_nil ?_
      refine heldK (by exact ⟨Sl.au, Sl.au⟩) (fun hS => ?_)
      refine D_g 11 rfl (fun W hW => r_neqs rfl rfl) ?_
      refine D_as (v := .bool _) (v' := .bool false) 45 rfl (dec_f (by simp)).symm ?_
      refine D_t 12 rfl (fun W hW => r_pf rfl rfl) ?_
      refine D_done (by kernel_rfl) ?_
      refine W_false rfl ?_
      refine W_skip ?_
      refine W_seq ?_
      refine W_region ?_
      refine L_r (r_mv) ?_
      refine L_call (.plain rfl) rfl rfl (r_call Tryz.func17 rfl rfl rfl (by rfl)) (iget_walk w0.heap.size _ (putL z) _ (hG _ Ch.au) (by omega) Sl.au (by omega)) ?_
      rintro v49 w11 ⟨vg, eg, rfl, hgn, hgy, c11⟩
      have hz11 := c11.size
      refine L_r (r_mv) ?_
      refine L_r (r_ext2_0 rfl) ?_
      refine L_r (r_ext2_1 rfl) ?_
      refine L_r (r_av) ?_
      refine L_r (r_ai rfl) ?_
      refine L_nil ?_
      refine W_seq ?_
      refine W_seq ?_
      refine W_region ?_
      refine L_r (r_mv) ?_
      refine L_r (r_lenSl Tryz.underlying22 (by conv => lhs; whnf) Sl.au) ?_
      refine L_r (r_gtr rfl rfl) ?_
      refine L_nil ?_
      refine W_if rfl (fun h54 => ?_) (fun h54 => ?_)
      · obtain ⟨he, hvg⟩ := hgn (puts_many (by omega) (by omega))
        subst he hvg
        have hnil := Sl.nil w11 3
        refine W_seq ?_
        refine W_region ?_
        refine L_r (r_mv) ?_
        refine L_r (r_lenSl Tryz.underlying22 (by conv => lhs; whnf) Sl.au) ?_
        refine L_r (r_eql rfl rfl) ?_
        refine L_as (v := .bool _) (v' := .bool true) 57 rfl (dec_t (by rfl)).symm ?_
        refine L_r (r_mb rfl) ?_
        refine L_g (r_mi rfl) ?_
        refine L_g (r_eql rfl rfl) ?_
        refine L_r (r_pt rfl rfl) ?_
        refine L_r (r_ab rfl) ?_
        refine L_nil ?_
        refine W_ret ?_
        refine ret1 (v := .bool _) rfl rfl ?_
        refine ⟨?_, Ch.au⟩
        first
        | rfl
        | exact congrArg Value.bool (decide_eq_true rfl)
        | exact congrArg Value.bool (hbb.2 rfl)
      · obtain ⟨hk1, hk2⟩ := puts_get ha hsz (by omega)
        obtain ⟨he, hO⟩ := hgy hk1
        subst he
        rw [hk2] at hO
        refine W_skip ?_
        refine W_seq ?_
        refine W_region ?_
        refine L_r (r_mi rfl) ?_
        refine L_r (r_eql rfl rfl) ?_
        refine L_as (v := .bool _) (v' := .bool true) 63 rfl (dec_t (by rfl)).symm ?_
        refine L_r (r_mb rfl) ?_
        refine L_g (r_mv) ?_
        refine L_g (r_mv) ?_
        refine L_call (.yes 2 true rfl rfl) rfl rfl (r_call Tryz.func15 rfl rfl rfl (by rfl)) (rsame04_walk v z _ z _ Sl.au Sl.au (by omega)) ?_
        rintro v67 w12 ⟨bb, rfl, hbb, c12⟩
        have hz12 := c12.size
        refine L_r (r_pt rfl rfl) ?_
        refine L_r (r_ab rfl) ?_
        refine L_nil ?_
        refine W_ret ?_
        refine ret1 (v := .bool _) rfl rfl ?_
        refine ⟨?_, Ch.au⟩
        first
        | rfl
        | exact congrArg Value.bool (decide_eq_true rfl)
        | exact congrArg Value.bool (hbb.2 rfl)
theorem CodePuts_walk (v : Value) (z : List Ins) (w0 : World) (hz : Sl w0 v 3 z.length (cellsI z) ∧ ∀ x ∈ z, -9223372036854775808 ≤ x.n ∧ x.n ≤ 9223372036854775807) (hL : Lv w0) :
    Does Tryz.prog 4 #[v] w0 (fun r w' => r = .bool true ∧ Nw w0 w') :=
  CodePuts_n v z w0 hz.1 hz.2 hL
end Go.Proofs.YtioonbfinnigpaaGreatDoor

