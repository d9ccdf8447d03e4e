/- Whole characters, a number: the document's, walked. -/
import Derived.Test.YtioonbfinnigpaaGreatDoorRef01
namespace Go.Proofs.YtioonbfinnigpaaGreatDoor
open Go Go.RowKit
set_option linter.unusedVariables false
set_option maxRecDepth 100000
set_option linter.unusedSimpArgs false
theorem after_walk (s : ByteArray) (i : Nat) (w0 : World) : Does Tryz.prog 87 #[.string s, .int .i64 i] w0 (fun r w' => r = .bool (decide (i < s.size ∧ 128 ≤ (bat s i).toNat ∧ (bat s i).toNat < 192)) ∧ w' = w0) := by
  refine fn_of (n := 21) (args := [.string s, .int .i64 i]) Tryz.func87 rfl rfl rfl ?_
  refine W_seq ?_
  refine W_region ?_
  refine L_r (r_ab rfl) ?_
  refine L_nil ?_
  refine W_seq ?_
  refine W_region ?_
  refine L_r (r_mi rfl) ?_
  refine L_r (r_ms rfl) ?_
  refine L_r (r_lens Tryz.underlying9 rfl) ?_
  refine L_r (r_lss rfl rfl) ?_
  refine L_r (r_mb rfl) ?_
  refine L_case (d := 9) rfl (fun h9 => ?_) (fun h9 => ?_)
  · refine L_g (r_ms rfl) ?_
    refine L_g (r_mi rfl) ?_
    refine L_g (r_indexs Tryz.underlying9 rfl rfl (by omega) (by omega) (by conv => lhs; (try simp only [Nat.mul_one, Nat.zero_add, Int.toNat_natCast, Int.toNat_zero, Int.reduceToNat, Nat.reduceMul, Nat.reduceAdd]))) ?_
    refine L_g (r_geq rfl rfl) ?_
    refine L_r (r_pt rfl rfl) ?_
    refine L_r (r_mb rfl) ?_
    refine L_case (d := 15) rfl (fun h15 => ?_) (fun h15 => ?_)
    · refine L_g (r_ms rfl) ?_
      refine L_g (r_mi rfl) ?_
      refine L_g (r_indexs Tryz.underlying9 rfl rfl (by omega) (by omega) (by conv => lhs; (try simp only [Nat.mul_one, Nat.zero_add, Int.toNat_natCast, Int.toNat_zero, Int.reduceToNat, Nat.reduceMul, Nat.reduceAdd]))) ?_
      refine L_g (r_lss rfl rfl) ?_
      refine L_r (r_pt rfl rfl) ?_
      refine L_r (r_ab rfl) ?_
      refine L_nil ?_
      refine W_ret ?_
      refine ret1 (v := .bool _) rfl rfl ?_
      first
      | exact ⟨congrArg Value.bool (decide_eq_decide.2 (by omega)), rfl⟩
      | exact ⟨congrArg Value.bool (decide_eq_true (by omega)).symm, rfl⟩
      | exact ⟨congrArg Value.bool (decide_eq_false (by omega)).symm, rfl⟩
    · refine L_ps ?_
      refine L_ps ?_
      refine L_ps ?_
      refine L_ps ?_
      refine L_r (r_pf rfl rfl) ?_
      refine L_r (r_ab rfl) ?_
      refine L_nil ?_
      refine W_ret ?_
      refine ret1 (v := .bool _) rfl rfl ?_
      first
      | exact ⟨congrArg Value.bool (decide_eq_decide.2 (by omega)), rfl⟩
      | exact ⟨congrArg Value.bool (decide_eq_true (by omega)).symm, rfl⟩
      | exact ⟨congrArg Value.bool (decide_eq_false (by omega)).symm, rfl⟩
  · refine L_ps ?_
    refine L_ps ?_
    refine L_ps ?_
    refine L_ps ?_
    refine L_r (r_pf rfl rfl) ?_
    refine L_r (r_mb rfl) ?_
    refine L_ps ?_
    refine L_ps ?_
    refine L_ps ?_
    refine L_ps ?_
    refine L_r (r_pf rfl rfl) ?_
    refine L_r (r_ab rfl) ?_
    refine L_nil ?_
    refine W_ret ?_
    refine ret1 (v := .bool _) rfl rfl ?_
    first
    | exact ⟨congrArg Value.bool (decide_eq_decide.2 (by omega)), rfl⟩
    | exact ⟨congrArg Value.bool (decide_eq_true (by omega)).symm, rfl⟩
    | exact ⟨congrArg Value.bool (decide_eq_false (by omega)).symm, rfl⟩
set_option maxHeartbeats 1000000 in
theorem char_walk (s : ByteArray) (w0 : World) (h : 0 < s.size) : Does Tryz.prog 70 #[.string s] w0 (fun r w' => r = .int .i64 (charN s.size (bat s 0).toNat (bat s 1).toNat (bat s 2).toNat (bat s 3).toNat : Nat) ∧ Nw w0 w') := by
  refine fn_of (n := 107) (args := [.string s]) Tryz.func70 rfl rfl rfl ?_
  refine W_seq ?_
  refine W_region ?_
  refine L_r (r_ai rfl) ?_
  refine L_nil ?_
  refine W_seq ?_
  refine W_region ?_
  refine L_r (r_ms rfl) ?_
  refine L_r (r_indexs Tryz.underlying9 rfl rfl (by omega) (by omega) (by conv => lhs; (try simp only [Nat.mul_one, Nat.zero_add, Int.toNat_natCast, Int.toNat_zero, Int.reduceToNat, Nat.reduceMul, Nat.reduceAdd]))) ?_
  refine L_r (r_conv Tryz.underlying5 Tryz.underlying3 rfl (by first | exact wr_i64 (by omega) | rfl)) ?_
  rw [show IntKind.i64.wrap ((bat s 0).toNat : Int) = ((bat s 0).toNat : Int) by rw [IntKind.wrap_i64]; have := (bat s 0).toNat_lt; omega]
  refine L_r (r_ai rfl) ?_
  refine L_nil ?_
  refine W_seq ?_
  refine W_block ?_
  refine W_seq ?_
  refine W_region ?_
  refine L_r (r_mi rfl) ?_
  refine L_r (r_lss rfl rfl) ?_
  refine L_r (r_ab rfl) ?_
  refine L_nil ?_
  refine W_if rfl (fun h9 => ?_) (fun h9 => ?_)
  · refine W_seq ?_
    refine W_region ?_
    refine L_r (r_ai rfl) ?_
    refine L_nil ?_
    refine W_ret ?_
    refine ret1 (v := .int _ _) rfl rfl ?_
    refine ⟨congrArg (fun x : Nat => Value.int .i64 (x : Int)) (?_ : _ = charN _ _ _ _ _), Ch.au⟩
    unfold charN
    repeat' split
    all_goals omega
  · refine W_seq ?_
    refine W_region ?_
    refine L_r (r_mi rfl) ?_
    refine L_r (r_geq rfl rfl) ?_
    refine L_r (r_mb rfl) ?_
    refine L_case (d := 15) rfl (fun h15 => ?_) (fun h15 => ?_)
    · refine L_g (r_mi rfl) ?_
      refine L_g (r_lss rfl rfl) ?_
      refine L_r (r_pt rfl rfl) ?_
      refine L_r (r_mb rfl) ?_
      refine L_case (d := 19) rfl (fun h19 => ?_) (fun h19 => ?_)
      · refine L_g (r_ms rfl) ?_
        refine L_call (.yes 6 true rfl rfl) rfl rfl (r_call Tryz.func87 rfl rfl rfl (by rfl)) (after_walk s 1 _) ?_
        rintro v21 w1 ⟨rfl, rfl⟩
        refine L_r (r_pt rfl rfl) ?_
        refine L_r (r_ab rfl) ?_
        refine L_nil ?_
        refine W_bool rfl (fun h12 => ?_) (fun h12 => ?_)
        · try (replace h12 := of_decide_eq_true h12)
          refine W_seq ?_
          refine W_region ?_
          refine L_r (r_ai rfl) ?_
          refine L_nil ?_
          refine W_ret ?_
          refine ret1 (v := .int _ _) rfl rfl ?_
          refine ⟨congrArg (fun x : Nat => Value.int .i64 (x : Int)) (?_ : _ = charN _ _ _ _ _), Ch.au⟩
          unfold charN
          repeat' split
          all_goals omega
        · try (replace h12 := of_decide_eq_false h12)
          refine W_seq ?_
          refine W_region ?_
          refine L_r (r_mi rfl) ?_
          refine L_r (r_geq rfl rfl) ?_
          refine L_r (r_mb rfl) ?_
          refine L_case (d := 26) rfl (fun h26 => ?_) (fun h26 => ?_)
          · refine L_g (r_mi rfl) ?_
            refine L_g (r_lss rfl rfl) ?_
            refine L_r (r_pt rfl rfl) ?_
            refine L_r (r_mb rfl) ?_
            refine L_case (d := 30) rfl (fun h30 => ?_) (fun h30 => ?_)
            · refine L_g (r_ms rfl) ?_
              refine L_call (.yes 6 true rfl rfl) rfl rfl (r_call Tryz.func87 rfl rfl rfl (by rfl)) (after_walk s 1 _) ?_
              rintro v32 w2 ⟨rfl, rfl⟩
              refine L_r (r_pt rfl rfl) ?_
              refine L_r (r_mb rfl) ?_
              refine L_caseb (d := 34) rfl (fun h34 => ?_) (fun h34 => ?_)
              · try (replace h34 := of_decide_eq_true h34)
                refine L_g (r_ms rfl) ?_
                refine L_call (.yes 10 true rfl rfl) rfl rfl (r_call Tryz.func87 rfl rfl rfl (by rfl)) (after_walk s 2 _) ?_
                rintro v36 w3 ⟨rfl, rfl⟩
                refine L_r (r_pt rfl rfl) ?_
                refine L_r (r_ab rfl) ?_
                refine L_nil ?_
                refine W_bool rfl (fun h23 => ?_) (fun h23 => ?_)
                · try (replace h23 := of_decide_eq_true h23)
                  refine W_seq ?_
                  refine W_still (by kernel_rfl) (by kernel_rfl) (fun w4 c4 hs4 => ?_)
                  refine H_r (r_mi rfl) ?_
                  refine H_r (r_remn rfl rfl (by omega) (by omega)) ?_
                  refine H_r (r_mul rfl rfl (by first | exact wr_i64 (by omega) | rfl)) ?_
                  refine H_r (r_ms rfl) ?_
                  refine H_r (r_indexs Tryz.underlying9 rfl rfl (by omega) (by omega) (by conv => lhs; (try simp only [Nat.mul_one, Nat.zero_add, Int.toNat_natCast, Int.toNat_zero, Int.reduceToNat, Nat.reduceMul, Nat.reduceAdd]))) ?_
                  refine H_r (r_remn rfl rfl (by omega) (by omega)) ?_
                  refine H_r (r_conv Tryz.underlying5 Tryz.underlying3 rfl (by first | exact wr_i64 (by omega) | rfl)) ?_
                  refine H_r (r_mul rfl rfl (by first | exact wr_i64 (by omega) | rfl)) ?_
                  refine H_r (r_add rfl rfl (by first | exact wr_i64 (by omega) | rfl)) ?_
                  refine H_r (r_ms rfl) ?_
                  refine H_r (r_indexs Tryz.underlying9 rfl rfl (by omega) (by omega) (by conv => lhs; (try simp only [Nat.mul_one, Nat.zero_add, Int.toNat_natCast, Int.toNat_zero, Int.reduceToNat, Nat.reduceMul, Nat.reduceAdd]))) ?_
                  refine H_r (r_remn rfl rfl (by omega) (by omega)) ?_
                  refine H_r (r_conv Tryz.underlying5 Tryz.underlying3 rfl (by first | exact wr_i64 (by omega) | rfl)) ?_
                  refine H_r (r_add rfl rfl (by first | exact wr_i64 (by omega) | rfl)) ?_
                  refine H_r (r_ai rfl) ?_
                  refine H_nil ?_
                  refine W_seq ?_
                  refine W_region ?_
                  refine L_r (r_mi rfl) ?_
                  refine L_r (r_geq rfl rfl) ?_
                  refine L_r (r_mb rfl) ?_
                  refine L_case (d := 54) rfl (fun h54 => ?_) (fun h54 => ?_)
                  · refine L_g (r_mi rfl) ?_
                    refine L_g (r_lss rfl rfl) ?_
                    refine L_g (r_mb rfl) ?_
                    refine L_case (d := 57) rfl (fun h57 => ?_) (fun h57 => ?_)
                    · refine L_ps ?_
                      refine L_ps ?_
                      refine L_g (r_pt rfl rfl) ?_
                      refine L_r (r_pt rfl rfl) ?_
                      refine L_nil ?_
                      refine W_true rfl ?_
                      refine W_seq ?_
                      refine W_region ?_
                      refine L_r (r_ai rfl) ?_
                      refine L_nil ?_
                      refine W_ret ?_
                      refine ret1 (v := .int _ _) rfl rfl ?_
                      refine ⟨congrArg (fun x : Nat => Value.int .i64 (x : Int)) (?_ : _ = charN _ _ _ _ _), Ch.au⟩
                      unfold charN
                      repeat' split
                      all_goals omega
                    · refine L_g (r_mi rfl) ?_
                      refine L_g (r_gtr rfl rfl) ?_
                      refine L_g (r_pf rfl rfl) ?_
                      refine L_r (r_pt rfl rfl) ?_
                      refine L_nil ?_
                      refine W_if rfl (fun h61 => ?_) (fun h61 => ?_)
                      · refine W_seq ?_
                        refine W_region ?_
                        refine L_r (r_ai rfl) ?_
                        refine L_nil ?_
                        refine W_ret ?_
                        refine ret1 (v := .int _ _) rfl rfl ?_
                        refine ⟨congrArg (fun x : Nat => Value.int .i64 (x : Int)) (?_ : _ = charN _ _ _ _ _), Ch.au⟩
                        unfold charN
                        repeat' split
                        all_goals omega
                      · refine W_skip ?_
                        refine W_seq ?_
                        refine W_region ?_
                        refine L_r (r_ai rfl) ?_
                        refine L_nil ?_
                        refine W_ret ?_
                        refine ret1 (v := .int _ _) rfl rfl ?_
                        refine ⟨congrArg (fun x : Nat => Value.int .i64 (x : Int)) (?_ : _ = charN _ _ _ _ _), Ch.au⟩
                        unfold charN
                        repeat' split
                        all_goals omega
                  · refine L_ps ?_
                    refine L_ps ?_
                    refine L_ps ?_
                    refine L_pu ?_
                    refine L_pu ?_
                    refine L_ps ?_
                    refine L_r (r_pf rfl rfl) ?_
                    refine L_nil ?_
                    refine W_false rfl ?_
                    refine W_skip ?_
                    refine W_seq ?_
                    refine W_region ?_
                    refine L_r (r_ai rfl) ?_
                    refine L_nil ?_
                    refine W_ret ?_
                    refine ret1 (v := .int _ _) rfl rfl ?_
                    refine ⟨congrArg (fun x : Nat => Value.int .i64 (x : Int)) (?_ : _ = charN _ _ _ _ _), Ch.au⟩
                    unfold charN
                    repeat' split
                    all_goals omega
                · try (replace h23 := of_decide_eq_false h23)
                  refine W_seq ?_
                  refine W_region ?_
                  refine L_r (r_mi rfl) ?_
                  refine L_r (r_geq rfl rfl) ?_
                  refine L_r (r_mb rfl) ?_
                  refine L_case (d := 65) rfl (fun h65 => ?_) (fun h65 => ?_)
                  · refine L_g (r_mi rfl) ?_
                    refine L_g (r_lss rfl rfl) ?_
                    refine L_r (r_pt rfl rfl) ?_
                    refine L_r (r_mb rfl) ?_
                    refine L_case (d := 69) rfl (fun h69 => ?_) (fun h69 => ?_)
                    · refine L_g (r_ms rfl) ?_
                      refine L_call (.yes 6 true rfl rfl) rfl rfl (r_call Tryz.func87 rfl rfl rfl (by rfl)) (after_walk s 1 _) ?_
                      rintro v71 w5 ⟨rfl, rfl⟩
                      refine L_r (r_pt rfl rfl) ?_
                      refine L_r (r_mb rfl) ?_
                      refine L_caseb (d := 73) rfl (fun h73 => ?_) (fun h73 => ?_)
                      · try (replace h73 := of_decide_eq_true h73)
                        refine L_g (r_ms rfl) ?_
                        refine L_call (.yes 10 true rfl rfl) rfl rfl (r_call Tryz.func87 rfl rfl rfl (by rfl)) (after_walk s 2 _) ?_
                        rintro v75 w6 ⟨rfl, rfl⟩
                        refine L_r (r_pt rfl rfl) ?_
                        refine L_r (r_mb rfl) ?_
                        refine L_caseb (d := 77) rfl (fun h77 => ?_) (fun h77 => ?_)
                        · try (replace h77 := of_decide_eq_true h77)
                          refine L_g (r_ms rfl) ?_
                          refine L_call (.yes 14 true rfl rfl) rfl rfl (r_call Tryz.func87 rfl rfl rfl (by rfl)) (after_walk s 3 _) ?_
                          rintro v79 w7 ⟨rfl, rfl⟩
                          refine L_r (r_pt rfl rfl) ?_
                          refine L_r (r_ab rfl) ?_
                          refine L_nil ?_
                          refine W_bool rfl (fun h62 => ?_) (fun h62 => ?_)
                          · try (replace h62 := of_decide_eq_true h62)
                            refine W_seq ?_
                            refine W_still (by kernel_rfl) (by kernel_rfl) (fun w8 c8 hs8 => ?_)
                            refine H_r (r_mi rfl) ?_
                            refine H_r (r_remn rfl rfl (by omega) (by omega)) ?_
                            refine H_r (r_mul rfl rfl (by first | exact wr_i64 (by omega) | rfl)) ?_
                            refine H_r (r_ms rfl) ?_
                            refine H_r (r_indexs Tryz.underlying9 rfl rfl (by omega) (by omega) (by conv => lhs; (try simp only [Nat.mul_one, Nat.zero_add, Int.toNat_natCast, Int.toNat_zero, Int.reduceToNat, Nat.reduceMul, Nat.reduceAdd]))) ?_
                            refine H_r (r_remn rfl rfl (by omega) (by omega)) ?_
                            refine H_r (r_conv Tryz.underlying5 Tryz.underlying3 rfl (by first | exact wr_i64 (by omega) | rfl)) ?_
                            refine H_r (r_mul rfl rfl (by first | exact wr_i64 (by omega) | rfl)) ?_
                            refine H_r (r_add rfl rfl (by first | exact wr_i64 (by omega) | rfl)) ?_
                            refine H_r (r_ms rfl) ?_
                            refine H_r (r_indexs Tryz.underlying9 rfl rfl (by omega) (by omega) (by conv => lhs; (try simp only [Nat.mul_one, Nat.zero_add, Int.toNat_natCast, Int.toNat_zero, Int.reduceToNat, Nat.reduceMul, Nat.reduceAdd]))) ?_
                            refine H_r (r_remn rfl rfl (by omega) (by omega)) ?_
                            refine H_r (r_conv Tryz.underlying5 Tryz.underlying3 rfl (by first | exact wr_i64 (by omega) | rfl)) ?_
                            refine H_r (r_mul rfl rfl (by first | exact wr_i64 (by omega) | rfl)) ?_
                            refine H_r (r_add rfl rfl (by first | exact wr_i64 (by omega) | rfl)) ?_
                            refine H_r (r_ms rfl) ?_
                            refine H_r (r_indexs Tryz.underlying9 rfl rfl (by omega) (by omega) (by conv => lhs; (try simp only [Nat.mul_one, Nat.zero_add, Int.toNat_natCast, Int.toNat_zero, Int.reduceToNat, Nat.reduceMul, Nat.reduceAdd]))) ?_
                            refine H_r (r_remn rfl rfl (by omega) (by omega)) ?_
                            refine H_r (r_conv Tryz.underlying5 Tryz.underlying3 rfl (by first | exact wr_i64 (by omega) | rfl)) ?_
                            refine H_r (r_add rfl rfl (by first | exact wr_i64 (by omega) | rfl)) ?_
                            refine H_r (r_ai rfl) ?_
                            refine H_nil ?_
                            refine W_seq ?_
                            refine W_region ?_
                            refine L_r (r_mi rfl) ?_
                            refine L_r (r_geq rfl rfl) ?_
                            refine L_r (r_mb rfl) ?_
                            refine L_case (d := 103) rfl (fun h103 => ?_) (fun h103 => ?_)
                            · refine L_g (r_mi rfl) ?_
                              refine L_g (r_leq rfl rfl) ?_
                              refine L_r (r_pt rfl rfl) ?_
                              refine L_nil ?_
                              refine W_if rfl (fun h106 => ?_) (fun h106 => ?_)
                              · refine W_seq ?_
                                refine W_region ?_
                                refine L_r (r_ai rfl) ?_
                                refine L_nil ?_
                                refine W_ret ?_
                                refine ret1 (v := .int _ _) rfl rfl ?_
                                refine ⟨congrArg (fun x : Nat => Value.int .i64 (x : Int)) (?_ : _ = charN _ _ _ _ _), Ch.au⟩
                                unfold charN
                                repeat' split
                                all_goals omega
                              · refine W_skip ?_
                                refine W_seq ?_
                                refine W_region ?_
                                refine L_r (r_ai rfl) ?_
                                refine L_nil ?_
                                refine W_ret ?_
                                refine ret1 (v := .int _ _) rfl rfl ?_
                                refine ⟨congrArg (fun x : Nat => Value.int .i64 (x : Int)) (?_ : _ = charN _ _ _ _ _), Ch.au⟩
                                unfold charN
                                repeat' split
                                all_goals omega
                            · refine L_ps ?_
                              refine L_ps ?_
                              refine L_r (r_pf rfl rfl) ?_
                              refine L_nil ?_
                              refine W_false rfl ?_
                              refine W_skip ?_
                              refine W_seq ?_
                              refine W_region ?_
                              refine L_r (r_ai rfl) ?_
                              refine L_nil ?_
                              refine W_ret ?_
                              refine ret1 (v := .int _ _) rfl rfl ?_
                              refine ⟨congrArg (fun x : Nat => Value.int .i64 (x : Int)) (?_ : _ = charN _ _ _ _ _), Ch.au⟩
                              unfold charN
                              repeat' split
                              all_goals omega
                          · try (replace h62 := of_decide_eq_false h62)
                            refine W_skip ?_
                            refine W_seq ?_
                            refine W_region ?_
                            refine L_r (r_ai rfl) ?_
                            refine L_nil ?_
                            refine W_ret ?_
                            refine ret1 (v := .int _ _) rfl rfl ?_
                            refine ⟨congrArg (fun x : Nat => Value.int .i64 (x : Int)) (?_ : _ = charN _ _ _ _ _), Ch.au⟩
                            unfold charN
                            repeat' split
                            all_goals omega
                        · try (replace h77 := of_decide_eq_false h77)
                          refine L_ps ?_
                          refine L_ps ?_
                          refine L_r (r_pf rfl rfl) ?_
                          refine L_r (r_ab rfl) ?_
                          refine L_nil ?_
                          refine W_false rfl ?_
                          refine W_skip ?_
                          refine W_seq ?_
                          refine W_region ?_
                          refine L_r (r_ai rfl) ?_
                          refine L_nil ?_
                          refine W_ret ?_
                          refine ret1 (v := .int _ _) rfl rfl ?_
                          refine ⟨congrArg (fun x : Nat => Value.int .i64 (x : Int)) (?_ : _ = charN _ _ _ _ _), Ch.au⟩
                          unfold charN
                          repeat' split
                          all_goals omega
                      · try (replace h73 := of_decide_eq_false h73)
                        refine L_ps ?_
                        refine L_ps ?_
                        refine L_r (r_pf rfl rfl) ?_
                        refine L_r (r_mb rfl) ?_
                        refine L_ps ?_
                        refine L_ps ?_
                        refine L_r (r_pf rfl rfl) ?_
                        refine L_r (r_ab rfl) ?_
                        refine L_nil ?_
                        refine W_false rfl ?_
                        refine W_skip ?_
                        refine W_seq ?_
                        refine W_region ?_
                        refine L_r (r_ai rfl) ?_
                        refine L_nil ?_
                        refine W_ret ?_
                        refine ret1 (v := .int _ _) rfl rfl ?_
                        refine ⟨congrArg (fun x : Nat => Value.int .i64 (x : Int)) (?_ : _ = charN _ _ _ _ _), Ch.au⟩
                        unfold charN
                        repeat' split
                        all_goals omega
                    · refine L_ps ?_
                      refine L_ps ?_
                      refine L_r (r_pf rfl rfl) ?_
                      refine L_r (r_mb rfl) ?_
                      refine L_ps ?_
                      refine L_ps ?_
                      refine L_r (r_pf rfl rfl) ?_
                      refine L_r (r_mb rfl) ?_
                      refine L_ps ?_
                      refine L_ps ?_
                      refine L_r (r_pf rfl rfl) ?_
                      refine L_r (r_ab rfl) ?_
                      refine L_nil ?_
                      refine W_false rfl ?_
                      refine W_skip ?_
                      refine W_seq ?_
                      refine W_region ?_
                      refine L_r (r_ai rfl) ?_
                      refine L_nil ?_
                      refine W_ret ?_
                      refine ret1 (v := .int _ _) rfl rfl ?_
                      refine ⟨congrArg (fun x : Nat => Value.int .i64 (x : Int)) (?_ : _ = charN _ _ _ _ _), Ch.au⟩
                      unfold charN
                      repeat' split
                      all_goals omega
                  · refine L_ps ?_
                    refine L_ps ?_
                    refine L_r (r_pf rfl rfl) ?_
                    refine L_r (r_mb rfl) ?_
                    refine L_ps ?_
                    refine L_ps ?_
                    refine L_r (r_pf rfl rfl) ?_
                    refine L_r (r_mb rfl) ?_
                    refine L_ps ?_
                    refine L_ps ?_
                    refine L_r (r_pf rfl rfl) ?_
                    refine L_r (r_mb rfl) ?_
                    refine L_ps ?_
                    refine L_ps ?_
                    refine L_r (r_pf rfl rfl) ?_
                    refine L_r (r_ab rfl) ?_
                    refine L_nil ?_
                    refine W_false rfl ?_
                    refine W_skip ?_
                    refine W_seq ?_
                    refine W_region ?_
                    refine L_r (r_ai rfl) ?_
                    refine L_nil ?_
                    refine W_ret ?_
                    refine ret1 (v := .int _ _) rfl rfl ?_
                    refine ⟨congrArg (fun x : Nat => Value.int .i64 (x : Int)) (?_ : _ = charN _ _ _ _ _), Ch.au⟩
                    unfold charN
                    repeat' split
                    all_goals omega
              · try (replace h34 := of_decide_eq_false h34)
                refine L_ps ?_
                refine L_ps ?_
                refine L_r (r_pf rfl rfl) ?_
                refine L_r (r_ab rfl) ?_
                refine L_nil ?_
                refine W_false rfl ?_
                refine W_seq ?_
                refine W_region ?_
                refine L_r (r_mi rfl) ?_
                refine L_r (r_geq rfl rfl) ?_
                refine L_r (r_mb rfl) ?_
                refine L_case (d := 65) rfl (fun h65 => ?_) (fun h65 => ?_)
                · refine L_g (r_mi rfl) ?_
                  refine L_g (r_lss rfl rfl) ?_
                  refine L_r (r_pt rfl rfl) ?_
                  refine L_r (r_mb rfl) ?_
                  refine L_case (d := 69) rfl (fun h69 => ?_) (fun h69 => ?_)
                  · refine L_g (r_ms rfl) ?_
                    refine L_call (.yes 6 true rfl rfl) rfl rfl (r_call Tryz.func87 rfl rfl rfl (by rfl)) (after_walk s 1 _) ?_
                    rintro v71 w9 ⟨rfl, rfl⟩
                    refine L_r (r_pt rfl rfl) ?_
                    refine L_r (r_mb rfl) ?_
                    refine L_caseb (d := 73) rfl (fun h73 => ?_) (fun h73 => ?_)
                    · try (replace h73 := of_decide_eq_true h73)
                      refine L_g (r_ms rfl) ?_
                      refine L_call (.yes 10 true rfl rfl) rfl rfl (r_call Tryz.func87 rfl rfl rfl (by rfl)) (after_walk s 2 _) ?_
                      rintro v75 w10 ⟨rfl, rfl⟩
                      refine L_r (r_pt rfl rfl) ?_
                      refine L_r (r_mb rfl) ?_
                      refine L_caseb (d := 77) rfl (fun h77 => ?_) (fun h77 => ?_)
                      · try (replace h77 := of_decide_eq_true h77)
                        refine L_g (r_ms rfl) ?_
                        refine L_call (.yes 14 true rfl rfl) rfl rfl (r_call Tryz.func87 rfl rfl rfl (by rfl)) (after_walk s 3 _) ?_
                        rintro v79 w11 ⟨rfl, rfl⟩
                        refine L_r (r_pt rfl rfl) ?_
                        refine L_r (r_ab rfl) ?_
                        refine L_nil ?_
                        refine W_bool rfl (fun h62 => ?_) (fun h62 => ?_)
                        · try (replace h62 := of_decide_eq_true h62)
                          refine W_seq ?_
                          refine W_still (by kernel_rfl) (by kernel_rfl) (fun w12 c12 hs12 => ?_)
                          refine H_r (r_mi rfl) ?_
                          refine H_r (r_remn rfl rfl (by omega) (by omega)) ?_
                          refine H_r (r_mul rfl rfl (by first | exact wr_i64 (by omega) | rfl)) ?_
                          refine H_r (r_ms rfl) ?_
                          refine H_r (r_indexs Tryz.underlying9 rfl rfl (by omega) (by omega) (by conv => lhs; (try simp only [Nat.mul_one, Nat.zero_add, Int.toNat_natCast, Int.toNat_zero, Int.reduceToNat, Nat.reduceMul, Nat.reduceAdd]))) ?_
                          refine H_r (r_remn rfl rfl (by omega) (by omega)) ?_
                          refine H_r (r_conv Tryz.underlying5 Tryz.underlying3 rfl (by first | exact wr_i64 (by omega) | rfl)) ?_
                          refine H_r (r_mul rfl rfl (by first | exact wr_i64 (by omega) | rfl)) ?_
                          refine H_r (r_add rfl rfl (by first | exact wr_i64 (by omega) | rfl)) ?_
                          refine H_r (r_ms rfl) ?_
                          refine H_r (r_indexs Tryz.underlying9 rfl rfl (by omega) (by omega) (by conv => lhs; (try simp only [Nat.mul_one, Nat.zero_add, Int.toNat_natCast, Int.toNat_zero, Int.reduceToNat, Nat.reduceMul, Nat.reduceAdd]))) ?_
                          refine H_r (r_remn rfl rfl (by omega) (by omega)) ?_
                          refine H_r (r_conv Tryz.underlying5 Tryz.underlying3 rfl (by first | exact wr_i64 (by omega) | rfl)) ?_
                          refine H_r (r_mul rfl rfl (by first | exact wr_i64 (by omega) | rfl)) ?_
                          refine H_r (r_add rfl rfl (by first | exact wr_i64 (by omega) | rfl)) ?_
                          refine H_r (r_ms rfl) ?_
                          refine H_r (r_indexs Tryz.underlying9 rfl rfl (by omega) (by omega) (by conv => lhs; (try simp only [Nat.mul_one, Nat.zero_add, Int.toNat_natCast, Int.toNat_zero, Int.reduceToNat, Nat.reduceMul, Nat.reduceAdd]))) ?_
                          refine H_r (r_remn rfl rfl (by omega) (by omega)) ?_
                          refine H_r (r_conv Tryz.underlying5 Tryz.underlying3 rfl (by first | exact wr_i64 (by omega) | rfl)) ?_
                          refine H_r (r_add rfl rfl (by first | exact wr_i64 (by omega) | rfl)) ?_
                          refine H_r (r_ai rfl) ?_
                          refine H_nil ?_
                          refine W_seq ?_
                          refine W_region ?_
                          refine L_r (r_mi rfl) ?_
                          refine L_r (r_geq rfl rfl) ?_
                          refine L_r (r_mb rfl) ?_
                          refine L_case (d := 103) rfl (fun h103 => ?_) (fun h103 => ?_)
                          · refine L_g (r_mi rfl) ?_
                            refine L_g (r_leq rfl rfl) ?_
                            refine L_r (r_pt rfl rfl) ?_
                            refine L_nil ?_
                            refine W_if rfl (fun h106 => ?_) (fun h106 => ?_)
                            · refine W_seq ?_
                              refine W_region ?_
                              refine L_r (r_ai rfl) ?_
                              refine L_nil ?_
                              refine W_ret ?_
                              refine ret1 (v := .int _ _) rfl rfl ?_
                              refine ⟨congrArg (fun x : Nat => Value.int .i64 (x : Int)) (?_ : _ = charN _ _ _ _ _), Ch.au⟩
                              unfold charN
                              repeat' split
                              all_goals omega
                            · refine W_skip ?_
                              refine W_seq ?_
                              refine W_region ?_
                              refine L_r (r_ai rfl) ?_
                              refine L_nil ?_
                              refine W_ret ?_
                              refine ret1 (v := .int _ _) rfl rfl ?_
                              refine ⟨congrArg (fun x : Nat => Value.int .i64 (x : Int)) (?_ : _ = charN _ _ _ _ _), Ch.au⟩
                              unfold charN
                              repeat' split
                              all_goals omega
                          · refine L_ps ?_
                            refine L_ps ?_
                            refine L_r (r_pf rfl rfl) ?_
                            refine L_nil ?_
                            refine W_false rfl ?_
                            refine W_skip ?_
                            refine W_seq ?_
                            refine W_region ?_
                            refine L_r (r_ai rfl) ?_
                            refine L_nil ?_
                            refine W_ret ?_
                            refine ret1 (v := .int _ _) rfl rfl ?_
                            refine ⟨congrArg (fun x : Nat => Value.int .i64 (x : Int)) (?_ : _ = charN _ _ _ _ _), Ch.au⟩
                            unfold charN
                            repeat' split
                            all_goals omega
                        · try (replace h62 := of_decide_eq_false h62)
                          refine W_skip ?_
                          refine W_seq ?_
                          refine W_region ?_
                          refine L_r (r_ai rfl) ?_
                          refine L_nil ?_
                          refine W_ret ?_
                          refine ret1 (v := .int _ _) rfl rfl ?_
                          refine ⟨congrArg (fun x : Nat => Value.int .i64 (x : Int)) (?_ : _ = charN _ _ _ _ _), Ch.au⟩
                          unfold charN
                          repeat' split
                          all_goals omega
                      · try (replace h77 := of_decide_eq_false h77)
                        refine L_ps ?_
                        refine L_ps ?_
                        refine L_r (r_pf rfl rfl) ?_
                        refine L_r (r_ab rfl) ?_
                        refine L_nil ?_
                        refine W_false rfl ?_
                        refine W_skip ?_
                        refine W_seq ?_
                        refine W_region ?_
                        refine L_r (r_ai rfl) ?_
                        refine L_nil ?_
                        refine W_ret ?_
                        refine ret1 (v := .int _ _) rfl rfl ?_
                        refine ⟨congrArg (fun x : Nat => Value.int .i64 (x : Int)) (?_ : _ = charN _ _ _ _ _), Ch.au⟩
                        unfold charN
                        repeat' split
                        all_goals omega
                    · try (replace h73 := of_decide_eq_false h73)
                      refine L_ps ?_
                      refine L_ps ?_
                      refine L_r (r_pf rfl rfl) ?_
                      refine L_r (r_mb rfl) ?_
                      refine L_ps ?_
                      refine L_ps ?_
                      refine L_r (r_pf rfl rfl) ?_
                      refine L_r (r_ab rfl) ?_
                      refine L_nil ?_
                      refine W_false rfl ?_
                      refine W_skip ?_
                      refine W_seq ?_
                      refine W_region ?_
                      refine L_r (r_ai rfl) ?_
                      refine L_nil ?_
                      refine W_ret ?_
                      refine ret1 (v := .int _ _) rfl rfl ?_
                      refine ⟨congrArg (fun x : Nat => Value.int .i64 (x : Int)) (?_ : _ = charN _ _ _ _ _), Ch.au⟩
                      unfold charN
                      repeat' split
                      all_goals omega
                  · refine L_ps ?_
                    refine L_ps ?_
                    refine L_r (r_pf rfl rfl) ?_
                    refine L_r (r_mb rfl) ?_
                    refine L_ps ?_
                    refine L_ps ?_
                    refine L_r (r_pf rfl rfl) ?_
                    refine L_r (r_mb rfl) ?_
                    refine L_ps ?_
                    refine L_ps ?_
                    refine L_r (r_pf rfl rfl) ?_
                    refine L_r (r_ab rfl) ?_
                    refine L_nil ?_
                    refine W_false rfl ?_
                    refine W_skip ?_
                    refine W_seq ?_
                    refine W_region ?_
                    refine L_r (r_ai rfl) ?_
                    refine L_nil ?_
                    refine W_ret ?_
                    refine ret1 (v := .int _ _) rfl rfl ?_
                    refine ⟨congrArg (fun x : Nat => Value.int .i64 (x : Int)) (?_ : _ = charN _ _ _ _ _), Ch.au⟩
                    unfold charN
                    repeat' split
                    all_goals omega
                · refine L_ps ?_
                  refine L_ps ?_
                  refine L_r (r_pf rfl rfl) ?_
                  refine L_r (r_mb rfl) ?_
                  refine L_ps ?_
                  refine L_ps ?_
                  refine L_r (r_pf rfl rfl) ?_
                  refine L_r (r_mb rfl) ?_
                  refine L_ps ?_
                  refine L_ps ?_
                  refine L_r (r_pf rfl rfl) ?_
                  refine L_r (r_mb rfl) ?_
                  refine L_ps ?_
                  refine L_ps ?_
                  refine L_r (r_pf rfl rfl) ?_
                  refine L_r (r_ab rfl) ?_
                  refine L_nil ?_
                  refine W_false rfl ?_
                  refine W_skip ?_
                  refine W_seq ?_
                  refine W_region ?_
                  refine L_r (r_ai rfl) ?_
                  refine L_nil ?_
                  refine W_ret ?_
                  refine ret1 (v := .int _ _) rfl rfl ?_
                  refine ⟨congrArg (fun x : Nat => Value.int .i64 (x : Int)) (?_ : _ = charN _ _ _ _ _), Ch.au⟩
                  unfold charN
                  repeat' split
                  all_goals omega
            · refine L_ps ?_
              refine L_ps ?_
              refine L_r (r_pf rfl rfl) ?_
              refine L_r (r_mb rfl) ?_
              refine L_ps ?_
              refine L_ps ?_
              refine L_r (r_pf rfl rfl) ?_
              refine L_r (r_ab rfl) ?_
              refine L_nil ?_
              refine W_false rfl ?_
              refine W_seq ?_
              refine W_region ?_
              refine L_r (r_mi rfl) ?_
              refine L_r (r_geq rfl rfl) ?_
              refine L_r (r_mb rfl) ?_
              refine L_case (d := 65) rfl (fun h65 => ?_) (fun h65 => ?_)
              · refine L_g (r_mi rfl) ?_
                refine L_g (r_lss rfl rfl) ?_
                refine L_r (r_pt rfl rfl) ?_
                refine L_r (r_mb rfl) ?_
                refine L_case (d := 69) rfl (fun h69 => ?_) (fun h69 => ?_)
                · refine L_g (r_ms rfl) ?_
                  refine L_call (.yes 6 true rfl rfl) rfl rfl (r_call Tryz.func87 rfl rfl rfl (by rfl)) (after_walk s 1 _) ?_
                  rintro v71 w13 ⟨rfl, rfl⟩
                  refine L_r (r_pt rfl rfl) ?_
                  refine L_r (r_mb rfl) ?_
                  refine L_caseb (d := 73) rfl (fun h73 => ?_) (fun h73 => ?_)
                  · try (replace h73 := of_decide_eq_true h73)
                    refine L_g (r_ms rfl) ?_
                    refine L_call (.yes 10 true rfl rfl) rfl rfl (r_call Tryz.func87 rfl rfl rfl (by rfl)) (after_walk s 2 _) ?_
                    rintro v75 w14 ⟨rfl, rfl⟩
                    refine L_r (r_pt rfl rfl) ?_
                    refine L_r (r_mb rfl) ?_
                    refine L_caseb (d := 77) rfl (fun h77 => ?_) (fun h77 => ?_)
                    · try (replace h77 := of_decide_eq_true h77)
                      refine L_g (r_ms rfl) ?_
                      refine L_call (.yes 14 true rfl rfl) rfl rfl (r_call Tryz.func87 rfl rfl rfl (by rfl)) (after_walk s 3 _) ?_
                      rintro v79 w15 ⟨rfl, rfl⟩
                      refine L_r (r_pt rfl rfl) ?_
                      refine L_r (r_ab rfl) ?_
                      refine L_nil ?_
                      refine W_bool rfl (fun h62 => ?_) (fun h62 => ?_)
                      · try (replace h62 := of_decide_eq_true h62)
                        refine W_seq ?_
                        refine W_still (by kernel_rfl) (by kernel_rfl) (fun w16 c16 hs16 => ?_)
                        refine H_r (r_mi rfl) ?_
                        refine H_r (r_remn rfl rfl (by omega) (by omega)) ?_
                        refine H_r (r_mul rfl rfl (by first | exact wr_i64 (by omega) | rfl)) ?_
                        refine H_r (r_ms rfl) ?_
                        refine H_r (r_indexs Tryz.underlying9 rfl rfl (by omega) (by omega) (by conv => lhs; (try simp only [Nat.mul_one, Nat.zero_add, Int.toNat_natCast, Int.toNat_zero, Int.reduceToNat, Nat.reduceMul, Nat.reduceAdd]))) ?_
                        refine H_r (r_remn rfl rfl (by omega) (by omega)) ?_
                        refine H_r (r_conv Tryz.underlying5 Tryz.underlying3 rfl (by first | exact wr_i64 (by omega) | rfl)) ?_
                        refine H_r (r_mul rfl rfl (by first | exact wr_i64 (by omega) | rfl)) ?_
                        refine H_r (r_add rfl rfl (by first | exact wr_i64 (by omega) | rfl)) ?_
                        refine H_r (r_ms rfl) ?_
                        refine H_r (r_indexs Tryz.underlying9 rfl rfl (by omega) (by omega) (by conv => lhs; (try simp only [Nat.mul_one, Nat.zero_add, Int.toNat_natCast, Int.toNat_zero, Int.reduceToNat, Nat.reduceMul, Nat.reduceAdd]))) ?_
                        refine H_r (r_remn rfl rfl (by omega) (by omega)) ?_
                        refine H_r (r_conv Tryz.underlying5 Tryz.underlying3 rfl (by first | exact wr_i64 (by omega) | rfl)) ?_
                        refine H_r (r_mul rfl rfl (by first | exact wr_i64 (by omega) | rfl)) ?_
                        refine H_r (r_add rfl rfl (by first | exact wr_i64 (by omega) | rfl)) ?_
                        refine H_r (r_ms rfl) ?_
                        refine H_r (r_indexs Tryz.underlying9 rfl rfl (by omega) (by omega) (by conv => lhs; (try simp only [Nat.mul_one, Nat.zero_add, Int.toNat_natCast, Int.toNat_zero, Int.reduceToNat, Nat.reduceMul, Nat.reduceAdd]))) ?_
                        refine H_r (r_remn rfl rfl (by omega) (by omega)) ?_
                        refine H_r (r_conv Tryz.underlying5 Tryz.underlying3 rfl (by first | exact wr_i64 (by omega) | rfl)) ?_
                        refine H_r (r_add rfl rfl (by first | exact wr_i64 (by omega) | rfl)) ?_
                        refine H_r (r_ai rfl) ?_
                        refine H_nil ?_
                        refine W_seq ?_
                        refine W_region ?_
                        refine L_r (r_mi rfl) ?_
                        refine L_r (r_geq rfl rfl) ?_
                        refine L_r (r_mb rfl) ?_
                        refine L_case (d := 103) rfl (fun h103 => ?_) (fun h103 => ?_)
                        · refine L_g (r_mi rfl) ?_
                          refine L_g (r_leq rfl rfl) ?_
                          refine L_r (r_pt rfl rfl) ?_
                          refine L_nil ?_
                          refine W_if rfl (fun h106 => ?_) (fun h106 => ?_)
                          · refine W_seq ?_
                            refine W_region ?_
                            refine L_r (r_ai rfl) ?_
                            refine L_nil ?_
                            refine W_ret ?_
                            refine ret1 (v := .int _ _) rfl rfl ?_
                            refine ⟨congrArg (fun x : Nat => Value.int .i64 (x : Int)) (?_ : _ = charN _ _ _ _ _), Ch.au⟩
                            unfold charN
                            repeat' split
                            all_goals omega
                          · refine W_skip ?_
                            refine W_seq ?_
                            refine W_region ?_
                            refine L_r (r_ai rfl) ?_
                            refine L_nil ?_
                            refine W_ret ?_
                            refine ret1 (v := .int _ _) rfl rfl ?_
                            refine ⟨congrArg (fun x : Nat => Value.int .i64 (x : Int)) (?_ : _ = charN _ _ _ _ _), Ch.au⟩
                            unfold charN
                            repeat' split
                            all_goals omega
                        · refine L_ps ?_
                          refine L_ps ?_
                          refine L_r (r_pf rfl rfl) ?_
                          refine L_nil ?_
                          refine W_false rfl ?_
                          refine W_skip ?_
                          refine W_seq ?_
                          refine W_region ?_
                          refine L_r (r_ai rfl) ?_
                          refine L_nil ?_
                          refine W_ret ?_
                          refine ret1 (v := .int _ _) rfl rfl ?_
                          refine ⟨congrArg (fun x : Nat => Value.int .i64 (x : Int)) (?_ : _ = charN _ _ _ _ _), Ch.au⟩
                          unfold charN
                          repeat' split
                          all_goals omega
                      · try (replace h62 := of_decide_eq_false h62)
                        refine W_skip ?_
                        refine W_seq ?_
                        refine W_region ?_
                        refine L_r (r_ai rfl) ?_
                        refine L_nil ?_
                        refine W_ret ?_
                        refine ret1 (v := .int _ _) rfl rfl ?_
                        refine ⟨congrArg (fun x : Nat => Value.int .i64 (x : Int)) (?_ : _ = charN _ _ _ _ _), Ch.au⟩
                        unfold charN
                        repeat' split
                        all_goals omega
                    · try (replace h77 := of_decide_eq_false h77)
                      refine L_ps ?_
                      refine L_ps ?_
                      refine L_r (r_pf rfl rfl) ?_
                      refine L_r (r_ab rfl) ?_
                      refine L_nil ?_
                      refine W_false rfl ?_
                      refine W_skip ?_
                      refine W_seq ?_
                      refine W_region ?_
                      refine L_r (r_ai rfl) ?_
                      refine L_nil ?_
                      refine W_ret ?_
                      refine ret1 (v := .int _ _) rfl rfl ?_
                      refine ⟨congrArg (fun x : Nat => Value.int .i64 (x : Int)) (?_ : _ = charN _ _ _ _ _), Ch.au⟩
                      unfold charN
                      repeat' split
                      all_goals omega
                  · try (replace h73 := of_decide_eq_false h73)
                    refine L_ps ?_
                    refine L_ps ?_
                    refine L_r (r_pf rfl rfl) ?_
                    refine L_r (r_mb rfl) ?_
                    refine L_ps ?_
                    refine L_ps ?_
                    refine L_r (r_pf rfl rfl) ?_
                    refine L_r (r_ab rfl) ?_
                    refine L_nil ?_
                    refine W_false rfl ?_
                    refine W_skip ?_
                    refine W_seq ?_
                    refine W_region ?_
                    refine L_r (r_ai rfl) ?_
                    refine L_nil ?_
                    refine W_ret ?_
                    refine ret1 (v := .int _ _) rfl rfl ?_
                    refine ⟨congrArg (fun x : Nat => Value.int .i64 (x : Int)) (?_ : _ = charN _ _ _ _ _), Ch.au⟩
                    unfold charN
                    repeat' split
                    all_goals omega
                · refine L_ps ?_
                  refine L_ps ?_
                  refine L_r (r_pf rfl rfl) ?_
                  refine L_r (r_mb rfl) ?_
                  refine L_ps ?_
                  refine L_ps ?_
                  refine L_r (r_pf rfl rfl) ?_
                  refine L_r (r_mb rfl) ?_
                  refine L_ps ?_
                  refine L_ps ?_
                  refine L_r (r_pf rfl rfl) ?_
                  refine L_r (r_ab rfl) ?_
                  refine L_nil ?_
                  refine W_false rfl ?_
                  refine W_skip ?_
                  refine W_seq ?_
                  refine W_region ?_
                  refine L_r (r_ai rfl) ?_
                  refine L_nil ?_
                  refine W_ret ?_
                  refine ret1 (v := .int _ _) rfl rfl ?_
                  refine ⟨congrArg (fun x : Nat => Value.int .i64 (x : Int)) (?_ : _ = charN _ _ _ _ _), Ch.au⟩
                  unfold charN
                  repeat' split
                  all_goals omega
              · refine L_ps ?_
                refine L_ps ?_
                refine L_r (r_pf rfl rfl) ?_
                refine L_r (r_mb rfl) ?_
                refine L_ps ?_
                refine L_ps ?_
                refine L_r (r_pf rfl rfl) ?_
                refine L_r (r_mb rfl) ?_
                refine L_ps ?_
                refine L_ps ?_
                refine L_r (r_pf rfl rfl) ?_
                refine L_r (r_mb rfl) ?_
                refine L_ps ?_
                refine L_ps ?_
                refine L_r (r_pf rfl rfl) ?_
                refine L_r (r_ab rfl) ?_
                refine L_nil ?_
                refine W_false rfl ?_
                refine W_skip ?_
                refine W_seq ?_
                refine W_region ?_
                refine L_r (r_ai rfl) ?_
                refine L_nil ?_
                refine W_ret ?_
                refine ret1 (v := .int _ _) rfl rfl ?_
                refine ⟨congrArg (fun x : Nat => Value.int .i64 (x : Int)) (?_ : _ = charN _ _ _ _ _), Ch.au⟩
                unfold charN
                repeat' split
                all_goals omega
          · refine L_ps ?_
            refine L_ps ?_
            refine L_r (r_pf rfl rfl) ?_
            refine L_r (r_mb rfl) ?_
            refine L_ps ?_
            refine L_ps ?_
            refine L_r (r_pf rfl rfl) ?_
            refine L_r (r_mb rfl) ?_
            refine L_ps ?_
            refine L_ps ?_
            refine L_r (r_pf rfl rfl) ?_
            refine L_r (r_ab rfl) ?_
            refine L_nil ?_
            refine W_false rfl ?_
            refine W_seq ?_
            refine W_region ?_
            refine L_r (r_mi rfl) ?_
            refine L_r (r_geq rfl rfl) ?_
            refine L_r (r_mb rfl) ?_
            refine L_case (d := 65) rfl (fun h65 => ?_) (fun h65 => ?_)
            · refine L_g (r_mi rfl) ?_
              refine L_g (r_lss rfl rfl) ?_
              refine L_r (r_pt rfl rfl) ?_
              refine L_r (r_mb rfl) ?_
              refine L_case (d := 69) rfl (fun h69 => ?_) (fun h69 => ?_)
              · refine L_g (r_ms rfl) ?_
                refine L_call (.yes 6 true rfl rfl) rfl rfl (r_call Tryz.func87 rfl rfl rfl (by rfl)) (after_walk s 1 _) ?_
                rintro v71 w17 ⟨rfl, rfl⟩
                refine L_r (r_pt rfl rfl) ?_
                refine L_r (r_mb rfl) ?_
                refine L_caseb (d := 73) rfl (fun h73 => ?_) (fun h73 => ?_)
                · try (replace h73 := of_decide_eq_true h73)
                  refine L_g (r_ms rfl) ?_
                  refine L_call (.yes 10 true rfl rfl) rfl rfl (r_call Tryz.func87 rfl rfl rfl (by rfl)) (after_walk s 2 _) ?_
                  rintro v75 w18 ⟨rfl, rfl⟩
                  refine L_r (r_pt rfl rfl) ?_
                  refine L_r (r_mb rfl) ?_
                  refine L_caseb (d := 77) rfl (fun h77 => ?_) (fun h77 => ?_)
                  · try (replace h77 := of_decide_eq_true h77)
                    refine L_g (r_ms rfl) ?_
                    refine L_call (.yes 14 true rfl rfl) rfl rfl (r_call Tryz.func87 rfl rfl rfl (by rfl)) (after_walk s 3 _) ?_
                    rintro v79 w19 ⟨rfl, rfl⟩
                    refine L_r (r_pt rfl rfl) ?_
                    refine L_r (r_ab rfl) ?_
                    refine L_nil ?_
                    refine W_bool rfl (fun h62 => ?_) (fun h62 => ?_)
                    · try (replace h62 := of_decide_eq_true h62)
                      refine W_seq ?_
                      refine W_still (by kernel_rfl) (by kernel_rfl) (fun w20 c20 hs20 => ?_)
                      refine H_r (r_mi rfl) ?_
                      refine H_r (r_remn rfl rfl (by omega) (by omega)) ?_
                      refine H_r (r_mul rfl rfl (by first | exact wr_i64 (by omega) | rfl)) ?_
                      refine H_r (r_ms rfl) ?_
                      refine H_r (r_indexs Tryz.underlying9 rfl rfl (by omega) (by omega) (by conv => lhs; (try simp only [Nat.mul_one, Nat.zero_add, Int.toNat_natCast, Int.toNat_zero, Int.reduceToNat, Nat.reduceMul, Nat.reduceAdd]))) ?_
                      refine H_r (r_remn rfl rfl (by omega) (by omega)) ?_
                      refine H_r (r_conv Tryz.underlying5 Tryz.underlying3 rfl (by first | exact wr_i64 (by omega) | rfl)) ?_
                      refine H_r (r_mul rfl rfl (by first | exact wr_i64 (by omega) | rfl)) ?_
                      refine H_r (r_add rfl rfl (by first | exact wr_i64 (by omega) | rfl)) ?_
                      refine H_r (r_ms rfl) ?_
                      refine H_r (r_indexs Tryz.underlying9 rfl rfl (by omega) (by omega) (by conv => lhs; (try simp only [Nat.mul_one, Nat.zero_add, Int.toNat_natCast, Int.toNat_zero, Int.reduceToNat, Nat.reduceMul, Nat.reduceAdd]))) ?_
                      refine H_r (r_remn rfl rfl (by omega) (by omega)) ?_
                      refine H_r (r_conv Tryz.underlying5 Tryz.underlying3 rfl (by first | exact wr_i64 (by omega) | rfl)) ?_
                      refine H_r (r_mul rfl rfl (by first | exact wr_i64 (by omega) | rfl)) ?_
                      refine H_r (r_add rfl rfl (by first | exact wr_i64 (by omega) | rfl)) ?_
                      refine H_r (r_ms rfl) ?_
                      refine H_r (r_indexs Tryz.underlying9 rfl rfl (by omega) (by omega) (by conv => lhs; (try simp only [Nat.mul_one, Nat.zero_add, Int.toNat_natCast, Int.toNat_zero, Int.reduceToNat, Nat.reduceMul, Nat.reduceAdd]))) ?_
                      refine H_r (r_remn rfl rfl (by omega) (by omega)) ?_
                      refine H_r (r_conv Tryz.underlying5 Tryz.underlying3 rfl (by first | exact wr_i64 (by omega) | rfl)) ?_
                      refine H_r (r_add rfl rfl (by first | exact wr_i64 (by omega) | rfl)) ?_
                      refine H_r (r_ai rfl) ?_
                      refine H_nil ?_
                      refine W_seq ?_
                      refine W_region ?_
                      refine L_r (r_mi rfl) ?_
                      refine L_r (r_geq rfl rfl) ?_
                      refine L_r (r_mb rfl) ?_
                      refine L_case (d := 103) rfl (fun h103 => ?_) (fun h103 => ?_)
                      · refine L_g (r_mi rfl) ?_
                        refine L_g (r_leq rfl rfl) ?_
                        refine L_r (r_pt rfl rfl) ?_
                        refine L_nil ?_
                        refine W_if rfl (fun h106 => ?_) (fun h106 => ?_)
                        · refine W_seq ?_
                          refine W_region ?_
                          refine L_r (r_ai rfl) ?_
                          refine L_nil ?_
                          refine W_ret ?_
                          refine ret1 (v := .int _ _) rfl rfl ?_
                          refine ⟨congrArg (fun x : Nat => Value.int .i64 (x : Int)) (?_ : _ = charN _ _ _ _ _), Ch.au⟩
                          unfold charN
                          repeat' split
                          all_goals omega
                        · refine W_skip ?_
                          refine W_seq ?_
                          refine W_region ?_
                          refine L_r (r_ai rfl) ?_
                          refine L_nil ?_
                          refine W_ret ?_
                          refine ret1 (v := .int _ _) rfl rfl ?_
                          refine ⟨congrArg (fun x : Nat => Value.int .i64 (x : Int)) (?_ : _ = charN _ _ _ _ _), Ch.au⟩
                          unfold charN
                          repeat' split
                          all_goals omega
                      · refine L_ps ?_
                        refine L_ps ?_
                        refine L_r (r_pf rfl rfl) ?_
                        refine L_nil ?_
                        refine W_false rfl ?_
                        refine W_skip ?_
                        refine W_seq ?_
                        refine W_region ?_
                        refine L_r (r_ai rfl) ?_
                        refine L_nil ?_
                        refine W_ret ?_
                        refine ret1 (v := .int _ _) rfl rfl ?_
                        refine ⟨congrArg (fun x : Nat => Value.int .i64 (x : Int)) (?_ : _ = charN _ _ _ _ _), Ch.au⟩
                        unfold charN
                        repeat' split
                        all_goals omega
                    · try (replace h62 := of_decide_eq_false h62)
                      refine W_skip ?_
                      refine W_seq ?_
                      refine W_region ?_
                      refine L_r (r_ai rfl) ?_
                      refine L_nil ?_
                      refine W_ret ?_
                      refine ret1 (v := .int _ _) rfl rfl ?_
                      refine ⟨congrArg (fun x : Nat => Value.int .i64 (x : Int)) (?_ : _ = charN _ _ _ _ _), Ch.au⟩
                      unfold charN
                      repeat' split
                      all_goals omega
                  · try (replace h77 := of_decide_eq_false h77)
                    refine L_ps ?_
                    refine L_ps ?_
                    refine L_r (r_pf rfl rfl) ?_
                    refine L_r (r_ab rfl) ?_
                    refine L_nil ?_
                    refine W_false rfl ?_
                    refine W_skip ?_
                    refine W_seq ?_
                    refine W_region ?_
                    refine L_r (r_ai rfl) ?_
                    refine L_nil ?_
                    refine W_ret ?_
                    refine ret1 (v := .int _ _) rfl rfl ?_
                    refine ⟨congrArg (fun x : Nat => Value.int .i64 (x : Int)) (?_ : _ = charN _ _ _ _ _), Ch.au⟩
                    unfold charN
                    repeat' split
                    all_goals omega
                · try (replace h73 := of_decide_eq_false h73)
                  refine L_ps ?_
                  refine L_ps ?_
                  refine L_r (r_pf rfl rfl) ?_
                  refine L_r (r_mb rfl) ?_
                  refine L_ps ?_
                  refine L_ps ?_
                  refine L_r (r_pf rfl rfl) ?_
                  refine L_r (r_ab rfl) ?_
                  refine L_nil ?_
                  refine W_false rfl ?_
                  refine W_skip ?_
                  refine W_seq ?_
                  refine W_region ?_
                  refine L_r (r_ai rfl) ?_
                  refine L_nil ?_
                  refine W_ret ?_
                  refine ret1 (v := .int _ _) rfl rfl ?_
                  refine ⟨congrArg (fun x : Nat => Value.int .i64 (x : Int)) (?_ : _ = charN _ _ _ _ _), Ch.au⟩
                  unfold charN
                  repeat' split
                  all_goals omega
              · refine L_ps ?_
                refine L_ps ?_
                refine L_r (r_pf rfl rfl) ?_
                refine L_r (r_mb rfl) ?_
                refine L_ps ?_
                refine L_ps ?_
                refine L_r (r_pf rfl rfl) ?_
                refine L_r (r_mb rfl) ?_
                refine L_ps ?_
                refine L_ps ?_
                refine L_r (r_pf rfl rfl) ?_
                refine L_r (r_ab rfl) ?_
                refine L_nil ?_
                refine W_false rfl ?_
                refine W_skip ?_
                refine W_seq ?_
                refine W_region ?_
                refine L_r (r_ai rfl) ?_
                refine L_nil ?_
                refine W_ret ?_
                refine ret1 (v := .int _ _) rfl rfl ?_
                refine ⟨congrArg (fun x : Nat => Value.int .i64 (x : Int)) (?_ : _ = charN _ _ _ _ _), Ch.au⟩
                unfold charN
                repeat' split
                all_goals omega
            · refine L_ps ?_
              refine L_ps ?_
              refine L_r (r_pf rfl rfl) ?_
              refine L_r (r_mb rfl) ?_
              refine L_ps ?_
              refine L_ps ?_
              refine L_r (r_pf rfl rfl) ?_
              refine L_r (r_mb rfl) ?_
              refine L_ps ?_
              refine L_ps ?_
              refine L_r (r_pf rfl rfl) ?_
              refine L_r (r_mb rfl) ?_
              refine L_ps ?_
              refine L_ps ?_
              refine L_r (r_pf rfl rfl) ?_
              refine L_r (r_ab rfl) ?_
              refine L_nil ?_
              refine W_false rfl ?_
              refine W_skip ?_
              refine W_seq ?_
              refine W_region ?_
              refine L_r (r_ai rfl) ?_
              refine L_nil ?_
              refine W_ret ?_
              refine ret1 (v := .int _ _) rfl rfl ?_
              refine ⟨congrArg (fun x : Nat => Value.int .i64 (x : Int)) (?_ : _ = charN _ _ _ _ _), Ch.au⟩
              unfold charN
              repeat' split
              all_goals omega
      · refine L_ps ?_
        refine L_ps ?_
        refine L_r (r_pf rfl rfl) ?_
        refine L_r (r_ab rfl) ?_
        refine L_nil ?_
        refine W_false rfl ?_
        refine W_seq ?_
        refine W_region ?_
        refine L_r (r_mi rfl) ?_
        refine L_r (r_geq rfl rfl) ?_
        refine L_r (r_mb rfl) ?_
        refine L_case (d := 26) rfl (fun h26 => ?_) (fun h26 => ?_)
        · refine L_g (r_mi rfl) ?_
          refine L_g (r_lss rfl rfl) ?_
          refine L_r (r_pt rfl rfl) ?_
          refine L_r (r_mb rfl) ?_
          refine L_case (d := 30) rfl (fun h30 => ?_) (fun h30 => ?_)
          · refine L_g (r_ms rfl) ?_
            refine L_call (.yes 6 true rfl rfl) rfl rfl (r_call Tryz.func87 rfl rfl rfl (by rfl)) (after_walk s 1 _) ?_
            rintro v32 w21 ⟨rfl, rfl⟩
            refine L_r (r_pt rfl rfl) ?_
            refine L_r (r_mb rfl) ?_
            refine L_caseb (d := 34) rfl (fun h34 => ?_) (fun h34 => ?_)
            · try (replace h34 := of_decide_eq_true h34)
              refine L_g (r_ms rfl) ?_
              refine L_call (.yes 10 true rfl rfl) rfl rfl (r_call Tryz.func87 rfl rfl rfl (by rfl)) (after_walk s 2 _) ?_
              rintro v36 w22 ⟨rfl, rfl⟩
              refine L_r (r_pt rfl rfl) ?_
              refine L_r (r_ab rfl) ?_
              refine L_nil ?_
              refine W_bool rfl (fun h23 => ?_) (fun h23 => ?_)
              · try (replace h23 := of_decide_eq_true h23)
                refine W_seq ?_
                refine W_still (by kernel_rfl) (by kernel_rfl) (fun w23 c23 hs23 => ?_)
                refine H_r (r_mi rfl) ?_
                refine H_r (r_remn rfl rfl (by omega) (by omega)) ?_
                refine H_r (r_mul rfl rfl (by first | exact wr_i64 (by omega) | rfl)) ?_
                refine H_r (r_ms rfl) ?_
                refine H_r (r_indexs Tryz.underlying9 rfl rfl (by omega) (by omega) (by conv => lhs; (try simp only [Nat.mul_one, Nat.zero_add, Int.toNat_natCast, Int.toNat_zero, Int.reduceToNat, Nat.reduceMul, Nat.reduceAdd]))) ?_
                refine H_r (r_remn rfl rfl (by omega) (by omega)) ?_
                refine H_r (r_conv Tryz.underlying5 Tryz.underlying3 rfl (by first | exact wr_i64 (by omega) | rfl)) ?_
                refine H_r (r_mul rfl rfl (by first | exact wr_i64 (by omega) | rfl)) ?_
                refine H_r (r_add rfl rfl (by first | exact wr_i64 (by omega) | rfl)) ?_
                refine H_r (r_ms rfl) ?_
                refine H_r (r_indexs Tryz.underlying9 rfl rfl (by omega) (by omega) (by conv => lhs; (try simp only [Nat.mul_one, Nat.zero_add, Int.toNat_natCast, Int.toNat_zero, Int.reduceToNat, Nat.reduceMul, Nat.reduceAdd]))) ?_
                refine H_r (r_remn rfl rfl (by omega) (by omega)) ?_
                refine H_r (r_conv Tryz.underlying5 Tryz.underlying3 rfl (by first | exact wr_i64 (by omega) | rfl)) ?_
                refine H_r (r_add rfl rfl (by first | exact wr_i64 (by omega) | rfl)) ?_
                refine H_r (r_ai rfl) ?_
                refine H_nil ?_
                refine W_seq ?_
                refine W_region ?_
                refine L_r (r_mi rfl) ?_
                refine L_r (r_geq rfl rfl) ?_
                refine L_r (r_mb rfl) ?_
                refine L_case (d := 54) rfl (fun h54 => ?_) (fun h54 => ?_)
                · refine L_g (r_mi rfl) ?_
                  refine L_g (r_lss rfl rfl) ?_
                  refine L_g (r_mb rfl) ?_
                  refine L_case (d := 57) rfl (fun h57 => ?_) (fun h57 => ?_)
                  · refine L_ps ?_
                    refine L_ps ?_
                    refine L_g (r_pt rfl rfl) ?_
                    refine L_r (r_pt rfl rfl) ?_
                    refine L_nil ?_
                    refine W_true rfl ?_
                    refine W_seq ?_
                    refine W_region ?_
                    refine L_r (r_ai rfl) ?_
                    refine L_nil ?_
                    refine W_ret ?_
                    refine ret1 (v := .int _ _) rfl rfl ?_
                    refine ⟨congrArg (fun x : Nat => Value.int .i64 (x : Int)) (?_ : _ = charN _ _ _ _ _), Ch.au⟩
                    unfold charN
                    repeat' split
                    all_goals omega
                  · refine L_g (r_mi rfl) ?_
                    refine L_g (r_gtr rfl rfl) ?_
                    refine L_g (r_pf rfl rfl) ?_
                    refine L_r (r_pt rfl rfl) ?_
                    refine L_nil ?_
                    refine W_if rfl (fun h61 => ?_) (fun h61 => ?_)
                    · refine W_seq ?_
                      refine W_region ?_
                      refine L_r (r_ai rfl) ?_
                      refine L_nil ?_
                      refine W_ret ?_
                      refine ret1 (v := .int _ _) rfl rfl ?_
                      refine ⟨congrArg (fun x : Nat => Value.int .i64 (x : Int)) (?_ : _ = charN _ _ _ _ _), Ch.au⟩
                      unfold charN
                      repeat' split
                      all_goals omega
                    · refine W_skip ?_
                      refine W_seq ?_
                      refine W_region ?_
                      refine L_r (r_ai rfl) ?_
                      refine L_nil ?_
                      refine W_ret ?_
                      refine ret1 (v := .int _ _) rfl rfl ?_
                      refine ⟨congrArg (fun x : Nat => Value.int .i64 (x : Int)) (?_ : _ = charN _ _ _ _ _), Ch.au⟩
                      unfold charN
                      repeat' split
                      all_goals omega
                · refine L_ps ?_
                  refine L_ps ?_
                  refine L_ps ?_
                  refine L_pu ?_
                  refine L_pu ?_
                  refine L_ps ?_
                  refine L_r (r_pf rfl rfl) ?_
                  refine L_nil ?_
                  refine W_false rfl ?_
                  refine W_skip ?_
                  refine W_seq ?_
                  refine W_region ?_
                  refine L_r (r_ai rfl) ?_
                  refine L_nil ?_
                  refine W_ret ?_
                  refine ret1 (v := .int _ _) rfl rfl ?_
                  refine ⟨congrArg (fun x : Nat => Value.int .i64 (x : Int)) (?_ : _ = charN _ _ _ _ _), Ch.au⟩
                  unfold charN
                  repeat' split
                  all_goals omega
              · try (replace h23 := of_decide_eq_false h23)
                refine W_seq ?_
                refine W_region ?_
                refine L_r (r_mi rfl) ?_
                refine L_r (r_geq rfl rfl) ?_
                refine L_r (r_mb rfl) ?_
                refine L_case (d := 65) rfl (fun h65 => ?_) (fun h65 => ?_)
                · refine L_g (r_mi rfl) ?_
                  refine L_g (r_lss rfl rfl) ?_
                  refine L_r (r_pt rfl rfl) ?_
                  refine L_r (r_mb rfl) ?_
                  refine L_case (d := 69) rfl (fun h69 => ?_) (fun h69 => ?_)
                  · refine L_g (r_ms rfl) ?_
                    refine L_call (.yes 6 true rfl rfl) rfl rfl (r_call Tryz.func87 rfl rfl rfl (by rfl)) (after_walk s 1 _) ?_
                    rintro v71 w24 ⟨rfl, rfl⟩
                    refine L_r (r_pt rfl rfl) ?_
                    refine L_r (r_mb rfl) ?_
                    refine L_caseb (d := 73) rfl (fun h73 => ?_) (fun h73 => ?_)
                    · try (replace h73 := of_decide_eq_true h73)
                      refine L_g (r_ms rfl) ?_
                      refine L_call (.yes 10 true rfl rfl) rfl rfl (r_call Tryz.func87 rfl rfl rfl (by rfl)) (after_walk s 2 _) ?_
                      rintro v75 w25 ⟨rfl, rfl⟩
                      refine L_r (r_pt rfl rfl) ?_
                      refine L_r (r_mb rfl) ?_
                      refine L_caseb (d := 77) rfl (fun h77 => ?_) (fun h77 => ?_)
                      · try (replace h77 := of_decide_eq_true h77)
                        refine L_g (r_ms rfl) ?_
                        refine L_call (.yes 14 true rfl rfl) rfl rfl (r_call Tryz.func87 rfl rfl rfl (by rfl)) (after_walk s 3 _) ?_
                        rintro v79 w26 ⟨rfl, rfl⟩
                        refine L_r (r_pt rfl rfl) ?_
                        refine L_r (r_ab rfl) ?_
                        refine L_nil ?_
                        refine W_bool rfl (fun h62 => ?_) (fun h62 => ?_)
                        · try (replace h62 := of_decide_eq_true h62)
                          refine W_seq ?_
                          refine W_still (by kernel_rfl) (by kernel_rfl) (fun w27 c27 hs27 => ?_)
                          refine H_r (r_mi rfl) ?_
                          refine H_r (r_remn rfl rfl (by omega) (by omega)) ?_
                          refine H_r (r_mul rfl rfl (by first | exact wr_i64 (by omega) | rfl)) ?_
                          refine H_r (r_ms rfl) ?_
                          refine H_r (r_indexs Tryz.underlying9 rfl rfl (by omega) (by omega) (by conv => lhs; (try simp only [Nat.mul_one, Nat.zero_add, Int.toNat_natCast, Int.toNat_zero, Int.reduceToNat, Nat.reduceMul, Nat.reduceAdd]))) ?_
                          refine H_r (r_remn rfl rfl (by omega) (by omega)) ?_
                          refine H_r (r_conv Tryz.underlying5 Tryz.underlying3 rfl (by first | exact wr_i64 (by omega) | rfl)) ?_
                          refine H_r (r_mul rfl rfl (by first | exact wr_i64 (by omega) | rfl)) ?_
                          refine H_r (r_add rfl rfl (by first | exact wr_i64 (by omega) | rfl)) ?_
                          refine H_r (r_ms rfl) ?_
                          refine H_r (r_indexs Tryz.underlying9 rfl rfl (by omega) (by omega) (by conv => lhs; (try simp only [Nat.mul_one, Nat.zero_add, Int.toNat_natCast, Int.toNat_zero, Int.reduceToNat, Nat.reduceMul, Nat.reduceAdd]))) ?_
                          refine H_r (r_remn rfl rfl (by omega) (by omega)) ?_
                          refine H_r (r_conv Tryz.underlying5 Tryz.underlying3 rfl (by first | exact wr_i64 (by omega) | rfl)) ?_
                          refine H_r (r_mul rfl rfl (by first | exact wr_i64 (by omega) | rfl)) ?_
                          refine H_r (r_add rfl rfl (by first | exact wr_i64 (by omega) | rfl)) ?_
                          refine H_r (r_ms rfl) ?_
                          refine H_r (r_indexs Tryz.underlying9 rfl rfl (by omega) (by omega) (by conv => lhs; (try simp only [Nat.mul_one, Nat.zero_add, Int.toNat_natCast, Int.toNat_zero, Int.reduceToNat, Nat.reduceMul, Nat.reduceAdd]))) ?_
                          refine H_r (r_remn rfl rfl (by omega) (by omega)) ?_
                          refine H_r (r_conv Tryz.underlying5 Tryz.underlying3 rfl (by first | exact wr_i64 (by omega) | rfl)) ?_
                          refine H_r (r_add rfl rfl (by first | exact wr_i64 (by omega) | rfl)) ?_
                          refine H_r (r_ai rfl) ?_
                          refine H_nil ?_
                          refine W_seq ?_
                          refine W_region ?_
                          refine L_r (r_mi rfl) ?_
                          refine L_r (r_geq rfl rfl) ?_
                          refine L_r (r_mb rfl) ?_
                          refine L_case (d := 103) rfl (fun h103 => ?_) (fun h103 => ?_)
                          · refine L_g (r_mi rfl) ?_
                            refine L_g (r_leq rfl rfl) ?_
                            refine L_r (r_pt rfl rfl) ?_
                            refine L_nil ?_
                            refine W_if rfl (fun h106 => ?_) (fun h106 => ?_)
                            · refine W_seq ?_
                              refine W_region ?_
                              refine L_r (r_ai rfl) ?_
                              refine L_nil ?_
                              refine W_ret ?_
                              refine ret1 (v := .int _ _) rfl rfl ?_
                              refine ⟨congrArg (fun x : Nat => Value.int .i64 (x : Int)) (?_ : _ = charN _ _ _ _ _), Ch.au⟩
                              unfold charN
                              repeat' split
                              all_goals omega
                            · refine W_skip ?_
                              refine W_seq ?_
                              refine W_region ?_
                              refine L_r (r_ai rfl) ?_
                              refine L_nil ?_
                              refine W_ret ?_
                              refine ret1 (v := .int _ _) rfl rfl ?_
                              refine ⟨congrArg (fun x : Nat => Value.int .i64 (x : Int)) (?_ : _ = charN _ _ _ _ _), Ch.au⟩
                              unfold charN
                              repeat' split
                              all_goals omega
                          · refine L_ps ?_
                            refine L_ps ?_
                            refine L_r (r_pf rfl rfl) ?_
                            refine L_nil ?_
                            refine W_false rfl ?_
                            refine W_skip ?_
                            refine W_seq ?_
                            refine W_region ?_
                            refine L_r (r_ai rfl) ?_
                            refine L_nil ?_
                            refine W_ret ?_
                            refine ret1 (v := .int _ _) rfl rfl ?_
                            refine ⟨congrArg (fun x : Nat => Value.int .i64 (x : Int)) (?_ : _ = charN _ _ _ _ _), Ch.au⟩
                            unfold charN
                            repeat' split
                            all_goals omega
                        · try (replace h62 := of_decide_eq_false h62)
                          refine W_skip ?_
                          refine W_seq ?_
                          refine W_region ?_
                          refine L_r (r_ai rfl) ?_
                          refine L_nil ?_
                          refine W_ret ?_
                          refine ret1 (v := .int _ _) rfl rfl ?_
                          refine ⟨congrArg (fun x : Nat => Value.int .i64 (x : Int)) (?_ : _ = charN _ _ _ _ _), Ch.au⟩
                          unfold charN
                          repeat' split
                          all_goals omega
                      · try (replace h77 := of_decide_eq_false h77)
                        refine L_ps ?_
                        refine L_ps ?_
                        refine L_r (r_pf rfl rfl) ?_
                        refine L_r (r_ab rfl) ?_
                        refine L_nil ?_
                        refine W_false rfl ?_
                        refine W_skip ?_
                        refine W_seq ?_
                        refine W_region ?_
                        refine L_r (r_ai rfl) ?_
                        refine L_nil ?_
                        refine W_ret ?_
                        refine ret1 (v := .int _ _) rfl rfl ?_
                        refine ⟨congrArg (fun x : Nat => Value.int .i64 (x : Int)) (?_ : _ = charN _ _ _ _ _), Ch.au⟩
                        unfold charN
                        repeat' split
                        all_goals omega
                    · try (replace h73 := of_decide_eq_false h73)
                      refine L_ps ?_
                      refine L_ps ?_
                      refine L_r (r_pf rfl rfl) ?_
                      refine L_r (r_mb rfl) ?_
                      refine L_ps ?_
                      refine L_ps ?_
                      refine L_r (r_pf rfl rfl) ?_
                      refine L_r (r_ab rfl) ?_
                      refine L_nil ?_
                      refine W_false rfl ?_
                      refine W_skip ?_
                      refine W_seq ?_
                      refine W_region ?_
                      refine L_r (r_ai rfl) ?_
                      refine L_nil ?_
                      refine W_ret ?_
                      refine ret1 (v := .int _ _) rfl rfl ?_
                      refine ⟨congrArg (fun x : Nat => Value.int .i64 (x : Int)) (?_ : _ = charN _ _ _ _ _), Ch.au⟩
                      unfold charN
                      repeat' split
                      all_goals omega
                  · refine L_ps ?_
                    refine L_ps ?_
                    refine L_r (r_pf rfl rfl) ?_
                    refine L_r (r_mb rfl) ?_
                    refine L_ps ?_
                    refine L_ps ?_
                    refine L_r (r_pf rfl rfl) ?_
                    refine L_r (r_mb rfl) ?_
                    refine L_ps ?_
                    refine L_ps ?_
                    refine L_r (r_pf rfl rfl) ?_
                    refine L_r (r_ab rfl) ?_
                    refine L_nil ?_
                    refine W_false rfl ?_
                    refine W_skip ?_
                    refine W_seq ?_
                    refine W_region ?_
                    refine L_r (r_ai rfl) ?_
                    refine L_nil ?_
                    refine W_ret ?_
                    refine ret1 (v := .int _ _) rfl rfl ?_
                    refine ⟨congrArg (fun x : Nat => Value.int .i64 (x : Int)) (?_ : _ = charN _ _ _ _ _), Ch.au⟩
                    unfold charN
                    repeat' split
                    all_goals omega
                · refine L_ps ?_
                  refine L_ps ?_
                  refine L_r (r_pf rfl rfl) ?_
                  refine L_r (r_mb rfl) ?_
                  refine L_ps ?_
                  refine L_ps ?_
                  refine L_r (r_pf rfl rfl) ?_
                  refine L_r (r_mb rfl) ?_
                  refine L_ps ?_
                  refine L_ps ?_
                  refine L_r (r_pf rfl rfl) ?_
                  refine L_r (r_mb rfl) ?_
                  refine L_ps ?_
                  refine L_ps ?_
                  refine L_r (r_pf rfl rfl) ?_
                  refine L_r (r_ab rfl) ?_
                  refine L_nil ?_
                  refine W_false rfl ?_
                  refine W_skip ?_
                  refine W_seq ?_
                  refine W_region ?_
                  refine L_r (r_ai rfl) ?_
                  refine L_nil ?_
                  refine W_ret ?_
                  refine ret1 (v := .int _ _) rfl rfl ?_
                  refine ⟨congrArg (fun x : Nat => Value.int .i64 (x : Int)) (?_ : _ = charN _ _ _ _ _), Ch.au⟩
                  unfold charN
                  repeat' split
                  all_goals omega
            · try (replace h34 := of_decide_eq_false h34)
              refine L_ps ?_
              refine L_ps ?_
              refine L_r (r_pf rfl rfl) ?_
              refine L_r (r_ab rfl) ?_
              refine L_nil ?_
              refine W_false rfl ?_
              refine W_seq ?_
              refine W_region ?_
              refine L_r (r_mi rfl) ?_
              refine L_r (r_geq rfl rfl) ?_
              refine L_r (r_mb rfl) ?_
              refine L_case (d := 65) rfl (fun h65 => ?_) (fun h65 => ?_)
              · refine L_g (r_mi rfl) ?_
                refine L_g (r_lss rfl rfl) ?_
                refine L_r (r_pt rfl rfl) ?_
                refine L_r (r_mb rfl) ?_
                refine L_case (d := 69) rfl (fun h69 => ?_) (fun h69 => ?_)
                · refine L_g (r_ms rfl) ?_
                  refine L_call (.yes 6 true rfl rfl) rfl rfl (r_call Tryz.func87 rfl rfl rfl (by rfl)) (after_walk s 1 _) ?_
                  rintro v71 w28 ⟨rfl, rfl⟩
                  refine L_r (r_pt rfl rfl) ?_
                  refine L_r (r_mb rfl) ?_
                  refine L_caseb (d := 73) rfl (fun h73 => ?_) (fun h73 => ?_)
                  · try (replace h73 := of_decide_eq_true h73)
                    refine L_g (r_ms rfl) ?_
                    refine L_call (.yes 10 true rfl rfl) rfl rfl (r_call Tryz.func87 rfl rfl rfl (by rfl)) (after_walk s 2 _) ?_
                    rintro v75 w29 ⟨rfl, rfl⟩
                    refine L_r (r_pt rfl rfl) ?_
                    refine L_r (r_mb rfl) ?_
                    refine L_caseb (d := 77) rfl (fun h77 => ?_) (fun h77 => ?_)
                    · try (replace h77 := of_decide_eq_true h77)
                      refine L_g (r_ms rfl) ?_
                      refine L_call (.yes 14 true rfl rfl) rfl rfl (r_call Tryz.func87 rfl rfl rfl (by rfl)) (after_walk s 3 _) ?_
                      rintro v79 w30 ⟨rfl, rfl⟩
                      refine L_r (r_pt rfl rfl) ?_
                      refine L_r (r_ab rfl) ?_
                      refine L_nil ?_
                      refine W_bool rfl (fun h62 => ?_) (fun h62 => ?_)
                      · try (replace h62 := of_decide_eq_true h62)
                        refine W_seq ?_
                        refine W_still (by kernel_rfl) (by kernel_rfl) (fun w31 c31 hs31 => ?_)
                        refine H_r (r_mi rfl) ?_
                        refine H_r (r_remn rfl rfl (by omega) (by omega)) ?_
                        refine H_r (r_mul rfl rfl (by first | exact wr_i64 (by omega) | rfl)) ?_
                        refine H_r (r_ms rfl) ?_
                        refine H_r (r_indexs Tryz.underlying9 rfl rfl (by omega) (by omega) (by conv => lhs; (try simp only [Nat.mul_one, Nat.zero_add, Int.toNat_natCast, Int.toNat_zero, Int.reduceToNat, Nat.reduceMul, Nat.reduceAdd]))) ?_
                        refine H_r (r_remn rfl rfl (by omega) (by omega)) ?_
                        refine H_r (r_conv Tryz.underlying5 Tryz.underlying3 rfl (by first | exact wr_i64 (by omega) | rfl)) ?_
                        refine H_r (r_mul rfl rfl (by first | exact wr_i64 (by omega) | rfl)) ?_
                        refine H_r (r_add rfl rfl (by first | exact wr_i64 (by omega) | rfl)) ?_
                        refine H_r (r_ms rfl) ?_
                        refine H_r (r_indexs Tryz.underlying9 rfl rfl (by omega) (by omega) (by conv => lhs; (try simp only [Nat.mul_one, Nat.zero_add, Int.toNat_natCast, Int.toNat_zero, Int.reduceToNat, Nat.reduceMul, Nat.reduceAdd]))) ?_
                        refine H_r (r_remn rfl rfl (by omega) (by omega)) ?_
                        refine H_r (r_conv Tryz.underlying5 Tryz.underlying3 rfl (by first | exact wr_i64 (by omega) | rfl)) ?_
                        refine H_r (r_mul rfl rfl (by first | exact wr_i64 (by omega) | rfl)) ?_
                        refine H_r (r_add rfl rfl (by first | exact wr_i64 (by omega) | rfl)) ?_
                        refine H_r (r_ms rfl) ?_
                        refine H_r (r_indexs Tryz.underlying9 rfl rfl (by omega) (by omega) (by conv => lhs; (try simp only [Nat.mul_one, Nat.zero_add, Int.toNat_natCast, Int.toNat_zero, Int.reduceToNat, Nat.reduceMul, Nat.reduceAdd]))) ?_
                        refine H_r (r_remn rfl rfl (by omega) (by omega)) ?_
                        refine H_r (r_conv Tryz.underlying5 Tryz.underlying3 rfl (by first | exact wr_i64 (by omega) | rfl)) ?_
                        refine H_r (r_add rfl rfl (by first | exact wr_i64 (by omega) | rfl)) ?_
                        refine H_r (r_ai rfl) ?_
                        refine H_nil ?_
                        refine W_seq ?_
                        refine W_region ?_
                        refine L_r (r_mi rfl) ?_
                        refine L_r (r_geq rfl rfl) ?_
                        refine L_r (r_mb rfl) ?_
                        refine L_case (d := 103) rfl (fun h103 => ?_) (fun h103 => ?_)
                        · refine L_g (r_mi rfl) ?_
                          refine L_g (r_leq rfl rfl) ?_
                          refine L_r (r_pt rfl rfl) ?_
                          refine L_nil ?_
                          refine W_if rfl (fun h106 => ?_) (fun h106 => ?_)
                          · refine W_seq ?_
                            refine W_region ?_
                            refine L_r (r_ai rfl) ?_
                            refine L_nil ?_
                            refine W_ret ?_
                            refine ret1 (v := .int _ _) rfl rfl ?_
                            refine ⟨congrArg (fun x : Nat => Value.int .i64 (x : Int)) (?_ : _ = charN _ _ _ _ _), Ch.au⟩
                            unfold charN
                            repeat' split
                            all_goals omega
                          · refine W_skip ?_
                            refine W_seq ?_
                            refine W_region ?_
                            refine L_r (r_ai rfl) ?_
                            refine L_nil ?_
                            refine W_ret ?_
                            refine ret1 (v := .int _ _) rfl rfl ?_
                            refine ⟨congrArg (fun x : Nat => Value.int .i64 (x : Int)) (?_ : _ = charN _ _ _ _ _), Ch.au⟩
                            unfold charN
                            repeat' split
                            all_goals omega
                        · refine L_ps ?_
                          refine L_ps ?_
                          refine L_r (r_pf rfl rfl) ?_
                          refine L_nil ?_
                          refine W_false rfl ?_
                          refine W_skip ?_
                          refine W_seq ?_
                          refine W_region ?_
                          refine L_r (r_ai rfl) ?_
                          refine L_nil ?_
                          refine W_ret ?_
                          refine ret1 (v := .int _ _) rfl rfl ?_
                          refine ⟨congrArg (fun x : Nat => Value.int .i64 (x : Int)) (?_ : _ = charN _ _ _ _ _), Ch.au⟩
                          unfold charN
                          repeat' split
                          all_goals omega
                      · try (replace h62 := of_decide_eq_false h62)
                        refine W_skip ?_
                        refine W_seq ?_
                        refine W_region ?_
                        refine L_r (r_ai rfl) ?_
                        refine L_nil ?_
                        refine W_ret ?_
                        refine ret1 (v := .int _ _) rfl rfl ?_
                        refine ⟨congrArg (fun x : Nat => Value.int .i64 (x : Int)) (?_ : _ = charN _ _ _ _ _), Ch.au⟩
                        unfold charN
                        repeat' split
                        all_goals omega
                    · try (replace h77 := of_decide_eq_false h77)
                      refine L_ps ?_
                      refine L_ps ?_
                      refine L_r (r_pf rfl rfl) ?_
                      refine L_r (r_ab rfl) ?_
                      refine L_nil ?_
                      refine W_false rfl ?_
                      refine W_skip ?_
                      refine W_seq ?_
                      refine W_region ?_
                      refine L_r (r_ai rfl) ?_
                      refine L_nil ?_
                      refine W_ret ?_
                      refine ret1 (v := .int _ _) rfl rfl ?_
                      refine ⟨congrArg (fun x : Nat => Value.int .i64 (x : Int)) (?_ : _ = charN _ _ _ _ _), Ch.au⟩
                      unfold charN
                      repeat' split
                      all_goals omega
                  · try (replace h73 := of_decide_eq_false h73)
                    refine L_ps ?_
                    refine L_ps ?_
                    refine L_r (r_pf rfl rfl) ?_
                    refine L_r (r_mb rfl) ?_
                    refine L_ps ?_
                    refine L_ps ?_
                    refine L_r (r_pf rfl rfl) ?_
                    refine L_r (r_ab rfl) ?_
                    refine L_nil ?_
                    refine W_false rfl ?_
                    refine W_skip ?_
                    refine W_seq ?_
                    refine W_region ?_
                    refine L_r (r_ai rfl) ?_
                    refine L_nil ?_
                    refine W_ret ?_
                    refine ret1 (v := .int _ _) rfl rfl ?_
                    refine ⟨congrArg (fun x : Nat => Value.int .i64 (x : Int)) (?_ : _ = charN _ _ _ _ _), Ch.au⟩
                    unfold charN
                    repeat' split
                    all_goals omega
                · refine L_ps ?_
                  refine L_ps ?_
                  refine L_r (r_pf rfl rfl) ?_
                  refine L_r (r_mb rfl) ?_
                  refine L_ps ?_
                  refine L_ps ?_
                  refine L_r (r_pf rfl rfl) ?_
                  refine L_r (r_mb rfl) ?_
                  refine L_ps ?_
                  refine L_ps ?_
                  refine L_r (r_pf rfl rfl) ?_
                  refine L_r (r_ab rfl) ?_
                  refine L_nil ?_
                  refine W_false rfl ?_
                  refine W_skip ?_
                  refine W_seq ?_
                  refine W_region ?_
                  refine L_r (r_ai rfl) ?_
                  refine L_nil ?_
                  refine W_ret ?_
                  refine ret1 (v := .int _ _) rfl rfl ?_
                  refine ⟨congrArg (fun x : Nat => Value.int .i64 (x : Int)) (?_ : _ = charN _ _ _ _ _), Ch.au⟩
                  unfold charN
                  repeat' split
                  all_goals omega
              · refine L_ps ?_
                refine L_ps ?_
                refine L_r (r_pf rfl rfl) ?_
                refine L_r (r_mb rfl) ?_
                refine L_ps ?_
                refine L_ps ?_
                refine L_r (r_pf rfl rfl) ?_
                refine L_r (r_mb rfl) ?_
                refine L_ps ?_
                refine L_ps ?_
                refine L_r (r_pf rfl rfl) ?_
                refine L_r (r_mb rfl) ?_
                refine L_ps ?_
                refine L_ps ?_
                refine L_r (r_pf rfl rfl) ?_
                refine L_r (r_ab rfl) ?_
                refine L_nil ?_
                refine W_false rfl ?_
                refine W_skip ?_
                refine W_seq ?_
                refine W_region ?_
                refine L_r (r_ai rfl) ?_
                refine L_nil ?_
                refine W_ret ?_
                refine ret1 (v := .int _ _) rfl rfl ?_
                refine ⟨congrArg (fun x : Nat => Value.int .i64 (x : Int)) (?_ : _ = charN _ _ _ _ _), Ch.au⟩
                unfold charN
                repeat' split
                all_goals omega
          · refine L_ps ?_
            refine L_ps ?_
            refine L_r (r_pf rfl rfl) ?_
            refine L_r (r_mb rfl) ?_
            refine L_ps ?_
            refine L_ps ?_
            refine L_r (r_pf rfl rfl) ?_
            refine L_r (r_ab rfl) ?_
            refine L_nil ?_
            refine W_false rfl ?_
            refine W_seq ?_
            refine W_region ?_
            refine L_r (r_mi rfl) ?_
            refine L_r (r_geq rfl rfl) ?_
            refine L_r (r_mb rfl) ?_
            refine L_case (d := 65) rfl (fun h65 => ?_) (fun h65 => ?_)
            · refine L_g (r_mi rfl) ?_
              refine L_g (r_lss rfl rfl) ?_
              refine L_r (r_pt rfl rfl) ?_
              refine L_r (r_mb rfl) ?_
              refine L_case (d := 69) rfl (fun h69 => ?_) (fun h69 => ?_)
              · refine L_g (r_ms rfl) ?_
                refine L_call (.yes 6 true rfl rfl) rfl rfl (r_call Tryz.func87 rfl rfl rfl (by rfl)) (after_walk s 1 _) ?_
                rintro v71 w32 ⟨rfl, rfl⟩
                refine L_r (r_pt rfl rfl) ?_
                refine L_r (r_mb rfl) ?_
                refine L_caseb (d := 73) rfl (fun h73 => ?_) (fun h73 => ?_)
                · try (replace h73 := of_decide_eq_true h73)
                  refine L_g (r_ms rfl) ?_
                  refine L_call (.yes 10 true rfl rfl) rfl rfl (r_call Tryz.func87 rfl rfl rfl (by rfl)) (after_walk s 2 _) ?_
                  rintro v75 w33 ⟨rfl, rfl⟩
                  refine L_r (r_pt rfl rfl) ?_
                  refine L_r (r_mb rfl) ?_
                  refine L_caseb (d := 77) rfl (fun h77 => ?_) (fun h77 => ?_)
                  · try (replace h77 := of_decide_eq_true h77)
                    refine L_g (r_ms rfl) ?_
                    refine L_call (.yes 14 true rfl rfl) rfl rfl (r_call Tryz.func87 rfl rfl rfl (by rfl)) (after_walk s 3 _) ?_
                    rintro v79 w34 ⟨rfl, rfl⟩
                    refine L_r (r_pt rfl rfl) ?_
                    refine L_r (r_ab rfl) ?_
                    refine L_nil ?_
                    refine W_bool rfl (fun h62 => ?_) (fun h62 => ?_)
                    · try (replace h62 := of_decide_eq_true h62)
                      refine W_seq ?_
                      refine W_still (by kernel_rfl) (by kernel_rfl) (fun w35 c35 hs35 => ?_)
                      refine H_r (r_mi rfl) ?_
                      refine H_r (r_remn rfl rfl (by omega) (by omega)) ?_
                      refine H_r (r_mul rfl rfl (by first | exact wr_i64 (by omega) | rfl)) ?_
                      refine H_r (r_ms rfl) ?_
                      refine H_r (r_indexs Tryz.underlying9 rfl rfl (by omega) (by omega) (by conv => lhs; (try simp only [Nat.mul_one, Nat.zero_add, Int.toNat_natCast, Int.toNat_zero, Int.reduceToNat, Nat.reduceMul, Nat.reduceAdd]))) ?_
                      refine H_r (r_remn rfl rfl (by omega) (by omega)) ?_
                      refine H_r (r_conv Tryz.underlying5 Tryz.underlying3 rfl (by first | exact wr_i64 (by omega) | rfl)) ?_
                      refine H_r (r_mul rfl rfl (by first | exact wr_i64 (by omega) | rfl)) ?_
                      refine H_r (r_add rfl rfl (by first | exact wr_i64 (by omega) | rfl)) ?_
                      refine H_r (r_ms rfl) ?_
                      refine H_r (r_indexs Tryz.underlying9 rfl rfl (by omega) (by omega) (by conv => lhs; (try simp only [Nat.mul_one, Nat.zero_add, Int.toNat_natCast, Int.toNat_zero, Int.reduceToNat, Nat.reduceMul, Nat.reduceAdd]))) ?_
                      refine H_r (r_remn rfl rfl (by omega) (by omega)) ?_
                      refine H_r (r_conv Tryz.underlying5 Tryz.underlying3 rfl (by first | exact wr_i64 (by omega) | rfl)) ?_
                      refine H_r (r_mul rfl rfl (by first | exact wr_i64 (by omega) | rfl)) ?_
                      refine H_r (r_add rfl rfl (by first | exact wr_i64 (by omega) | rfl)) ?_
                      refine H_r (r_ms rfl) ?_
                      refine H_r (r_indexs Tryz.underlying9 rfl rfl (by omega) (by omega) (by conv => lhs; (try simp only [Nat.mul_one, Nat.zero_add, Int.toNat_natCast, Int.toNat_zero, Int.reduceToNat, Nat.reduceMul, Nat.reduceAdd]))) ?_
                      refine H_r (r_remn rfl rfl (by omega) (by omega)) ?_
                      refine H_r (r_conv Tryz.underlying5 Tryz.underlying3 rfl (by first | exact wr_i64 (by omega) | rfl)) ?_
                      refine H_r (r_add rfl rfl (by first | exact wr_i64 (by omega) | rfl)) ?_
                      refine H_r (r_ai rfl) ?_
                      refine H_nil ?_
                      refine W_seq ?_
                      refine W_region ?_
                      refine L_r (r_mi rfl) ?_
                      refine L_r (r_geq rfl rfl) ?_
                      refine L_r (r_mb rfl) ?_
                      refine L_case (d := 103) rfl (fun h103 => ?_) (fun h103 => ?_)
                      · refine L_g (r_mi rfl) ?_
                        refine L_g (r_leq rfl rfl) ?_
                        refine L_r (r_pt rfl rfl) ?_
                        refine L_nil ?_
                        refine W_if rfl (fun h106 => ?_) (fun h106 => ?_)
                        · refine W_seq ?_
                          refine W_region ?_
                          refine L_r (r_ai rfl) ?_
                          refine L_nil ?_
                          refine W_ret ?_
                          refine ret1 (v := .int _ _) rfl rfl ?_
                          refine ⟨congrArg (fun x : Nat => Value.int .i64 (x : Int)) (?_ : _ = charN _ _ _ _ _), Ch.au⟩
                          unfold charN
                          repeat' split
                          all_goals omega
                        · refine W_skip ?_
                          refine W_seq ?_
                          refine W_region ?_
                          refine L_r (r_ai rfl) ?_
                          refine L_nil ?_
                          refine W_ret ?_
                          refine ret1 (v := .int _ _) rfl rfl ?_
                          refine ⟨congrArg (fun x : Nat => Value.int .i64 (x : Int)) (?_ : _ = charN _ _ _ _ _), Ch.au⟩
                          unfold charN
                          repeat' split
                          all_goals omega
                      · refine L_ps ?_
                        refine L_ps ?_
                        refine L_r (r_pf rfl rfl) ?_
                        refine L_nil ?_
                        refine W_false rfl ?_
                        refine W_skip ?_
                        refine W_seq ?_
                        refine W_region ?_
                        refine L_r (r_ai rfl) ?_
                        refine L_nil ?_
                        refine W_ret ?_
                        refine ret1 (v := .int _ _) rfl rfl ?_
                        refine ⟨congrArg (fun x : Nat => Value.int .i64 (x : Int)) (?_ : _ = charN _ _ _ _ _), Ch.au⟩
                        unfold charN
                        repeat' split
                        all_goals omega
                    · try (replace h62 := of_decide_eq_false h62)
                      refine W_skip ?_
                      refine W_seq ?_
                      refine W_region ?_
                      refine L_r (r_ai rfl) ?_
                      refine L_nil ?_
                      refine W_ret ?_
                      refine ret1 (v := .int _ _) rfl rfl ?_
                      refine ⟨congrArg (fun x : Nat => Value.int .i64 (x : Int)) (?_ : _ = charN _ _ _ _ _), Ch.au⟩
                      unfold charN
                      repeat' split
                      all_goals omega
                  · try (replace h77 := of_decide_eq_false h77)
                    refine L_ps ?_
                    refine L_ps ?_
                    refine L_r (r_pf rfl rfl) ?_
                    refine L_r (r_ab rfl) ?_
                    refine L_nil ?_
                    refine W_false rfl ?_
                    refine W_skip ?_
                    refine W_seq ?_
                    refine W_region ?_
                    refine L_r (r_ai rfl) ?_
                    refine L_nil ?_
                    refine W_ret ?_
                    refine ret1 (v := .int _ _) rfl rfl ?_
                    refine ⟨congrArg (fun x : Nat => Value.int .i64 (x : Int)) (?_ : _ = charN _ _ _ _ _), Ch.au⟩
                    unfold charN
                    repeat' split
                    all_goals omega
                · try (replace h73 := of_decide_eq_false h73)
                  refine L_ps ?_
                  refine L_ps ?_
                  refine L_r (r_pf rfl rfl) ?_
                  refine L_r (r_mb rfl) ?_
                  refine L_ps ?_
                  refine L_ps ?_
                  refine L_r (r_pf rfl rfl) ?_
                  refine L_r (r_ab rfl) ?_
                  refine L_nil ?_
                  refine W_false rfl ?_
                  refine W_skip ?_
                  refine W_seq ?_
                  refine W_region ?_
                  refine L_r (r_ai rfl) ?_
                  refine L_nil ?_
                  refine W_ret ?_
                  refine ret1 (v := .int _ _) rfl rfl ?_
                  refine ⟨congrArg (fun x : Nat => Value.int .i64 (x : Int)) (?_ : _ = charN _ _ _ _ _), Ch.au⟩
                  unfold charN
                  repeat' split
                  all_goals omega
              · refine L_ps ?_
                refine L_ps ?_
                refine L_r (r_pf rfl rfl) ?_
                refine L_r (r_mb rfl) ?_
                refine L_ps ?_
                refine L_ps ?_
                refine L_r (r_pf rfl rfl) ?_
                refine L_r (r_mb rfl) ?_
                refine L_ps ?_
                refine L_ps ?_
                refine L_r (r_pf rfl rfl) ?_
                refine L_r (r_ab rfl) ?_
                refine L_nil ?_
                refine W_false rfl ?_
                refine W_skip ?_
                refine W_seq ?_
                refine W_region ?_
                refine L_r (r_ai rfl) ?_
                refine L_nil ?_
                refine W_ret ?_
                refine ret1 (v := .int _ _) rfl rfl ?_
                refine ⟨congrArg (fun x : Nat => Value.int .i64 (x : Int)) (?_ : _ = charN _ _ _ _ _), Ch.au⟩
                unfold charN
                repeat' split
                all_goals omega
            · refine L_ps ?_
              refine L_ps ?_
              refine L_r (r_pf rfl rfl) ?_
              refine L_r (r_mb rfl) ?_
              refine L_ps ?_
              refine L_ps ?_
              refine L_r (r_pf rfl rfl) ?_
              refine L_r (r_mb rfl) ?_
              refine L_ps ?_
              refine L_ps ?_
              refine L_r (r_pf rfl rfl) ?_
              refine L_r (r_mb rfl) ?_
              refine L_ps ?_
              refine L_ps ?_
              refine L_r (r_pf rfl rfl) ?_
              refine L_r (r_ab rfl) ?_
              refine L_nil ?_
              refine W_false rfl ?_
              refine W_skip ?_
              refine W_seq ?_
              refine W_region ?_
              refine L_r (r_ai rfl) ?_
              refine L_nil ?_
              refine W_ret ?_
              refine ret1 (v := .int _ _) rfl rfl ?_
              refine ⟨congrArg (fun x : Nat => Value.int .i64 (x : Int)) (?_ : _ = charN _ _ _ _ _), Ch.au⟩
              unfold charN
              repeat' split
              all_goals omega
        · refine L_ps ?_
          refine L_ps ?_
          refine L_r (r_pf rfl rfl) ?_
          refine L_r (r_mb rfl) ?_
          refine L_ps ?_
          refine L_ps ?_
          refine L_r (r_pf rfl rfl) ?_
          refine L_r (r_mb rfl) ?_
          refine L_ps ?_
          refine L_ps ?_
          refine L_r (r_pf rfl rfl) ?_
          refine L_r (r_ab rfl) ?_
          refine L_nil ?_
          refine W_false rfl ?_
          refine W_seq ?_
          refine W_region ?_
          refine L_r (r_mi rfl) ?_
          refine L_r (r_geq rfl rfl) ?_
          refine L_r (r_mb rfl) ?_
          refine L_case (d := 65) rfl (fun h65 => ?_) (fun h65 => ?_)
          · refine L_g (r_mi rfl) ?_
            refine L_g (r_lss rfl rfl) ?_
            refine L_r (r_pt rfl rfl) ?_
            refine L_r (r_mb rfl) ?_
            refine L_case (d := 69) rfl (fun h69 => ?_) (fun h69 => ?_)
            · refine L_g (r_ms rfl) ?_
              refine L_call (.yes 6 true rfl rfl) rfl rfl (r_call Tryz.func87 rfl rfl rfl (by rfl)) (after_walk s 1 _) ?_
              rintro v71 w36 ⟨rfl, rfl⟩
              refine L_r (r_pt rfl rfl) ?_
              refine L_r (r_mb rfl) ?_
              refine L_caseb (d := 73) rfl (fun h73 => ?_) (fun h73 => ?_)
              · try (replace h73 := of_decide_eq_true h73)
                refine L_g (r_ms rfl) ?_
                refine L_call (.yes 10 true rfl rfl) rfl rfl (r_call Tryz.func87 rfl rfl rfl (by rfl)) (after_walk s 2 _) ?_
                rintro v75 w37 ⟨rfl, rfl⟩
                refine L_r (r_pt rfl rfl) ?_
                refine L_r (r_mb rfl) ?_
                refine L_caseb (d := 77) rfl (fun h77 => ?_) (fun h77 => ?_)
                · try (replace h77 := of_decide_eq_true h77)
                  refine L_g (r_ms rfl) ?_
                  refine L_call (.yes 14 true rfl rfl) rfl rfl (r_call Tryz.func87 rfl rfl rfl (by rfl)) (after_walk s 3 _) ?_
                  rintro v79 w38 ⟨rfl, rfl⟩
                  refine L_r (r_pt rfl rfl) ?_
                  refine L_r (r_ab rfl) ?_
                  refine L_nil ?_
                  refine W_bool rfl (fun h62 => ?_) (fun h62 => ?_)
                  · try (replace h62 := of_decide_eq_true h62)
                    refine W_seq ?_
                    refine W_still (by kernel_rfl) (by kernel_rfl) (fun w39 c39 hs39 => ?_)
                    refine H_r (r_mi rfl) ?_
                    refine H_r (r_remn rfl rfl (by omega) (by omega)) ?_
                    refine H_r (r_mul rfl rfl (by first | exact wr_i64 (by omega) | rfl)) ?_
                    refine H_r (r_ms rfl) ?_
                    refine H_r (r_indexs Tryz.underlying9 rfl rfl (by omega) (by omega) (by conv => lhs; (try simp only [Nat.mul_one, Nat.zero_add, Int.toNat_natCast, Int.toNat_zero, Int.reduceToNat, Nat.reduceMul, Nat.reduceAdd]))) ?_
                    refine H_r (r_remn rfl rfl (by omega) (by omega)) ?_
                    refine H_r (r_conv Tryz.underlying5 Tryz.underlying3 rfl (by first | exact wr_i64 (by omega) | rfl)) ?_
                    refine H_r (r_mul rfl rfl (by first | exact wr_i64 (by omega) | rfl)) ?_
                    refine H_r (r_add rfl rfl (by first | exact wr_i64 (by omega) | rfl)) ?_
                    refine H_r (r_ms rfl) ?_
                    refine H_r (r_indexs Tryz.underlying9 rfl rfl (by omega) (by omega) (by conv => lhs; (try simp only [Nat.mul_one, Nat.zero_add, Int.toNat_natCast, Int.toNat_zero, Int.reduceToNat, Nat.reduceMul, Nat.reduceAdd]))) ?_
                    refine H_r (r_remn rfl rfl (by omega) (by omega)) ?_
                    refine H_r (r_conv Tryz.underlying5 Tryz.underlying3 rfl (by first | exact wr_i64 (by omega) | rfl)) ?_
                    refine H_r (r_mul rfl rfl (by first | exact wr_i64 (by omega) | rfl)) ?_
                    refine H_r (r_add rfl rfl (by first | exact wr_i64 (by omega) | rfl)) ?_
                    refine H_r (r_ms rfl) ?_
                    refine H_r (r_indexs Tryz.underlying9 rfl rfl (by omega) (by omega) (by conv => lhs; (try simp only [Nat.mul_one, Nat.zero_add, Int.toNat_natCast, Int.toNat_zero, Int.reduceToNat, Nat.reduceMul, Nat.reduceAdd]))) ?_
                    refine H_r (r_remn rfl rfl (by omega) (by omega)) ?_
                    refine H_r (r_conv Tryz.underlying5 Tryz.underlying3 rfl (by first | exact wr_i64 (by omega) | rfl)) ?_
                    refine H_r (r_add rfl rfl (by first | exact wr_i64 (by omega) | rfl)) ?_
                    refine H_r (r_ai rfl) ?_
                    refine H_nil ?_
                    refine W_seq ?_
                    refine W_region ?_
                    refine L_r (r_mi rfl) ?_
                    refine L_r (r_geq rfl rfl) ?_
                    refine L_r (r_mb rfl) ?_
                    refine L_case (d := 103) rfl (fun h103 => ?_) (fun h103 => ?_)
                    · refine L_g (r_mi rfl) ?_
                      refine L_g (r_leq rfl rfl) ?_
                      refine L_r (r_pt rfl rfl) ?_
                      refine L_nil ?_
                      refine W_if rfl (fun h106 => ?_) (fun h106 => ?_)
                      · refine W_seq ?_
                        refine W_region ?_
                        refine L_r (r_ai rfl) ?_
                        refine L_nil ?_
                        refine W_ret ?_
                        refine ret1 (v := .int _ _) rfl rfl ?_
                        refine ⟨congrArg (fun x : Nat => Value.int .i64 (x : Int)) (?_ : _ = charN _ _ _ _ _), Ch.au⟩
                        unfold charN
                        repeat' split
                        all_goals omega
                      · refine W_skip ?_
                        refine W_seq ?_
                        refine W_region ?_
                        refine L_r (r_ai rfl) ?_
                        refine L_nil ?_
                        refine W_ret ?_
                        refine ret1 (v := .int _ _) rfl rfl ?_
                        refine ⟨congrArg (fun x : Nat => Value.int .i64 (x : Int)) (?_ : _ = charN _ _ _ _ _), Ch.au⟩
                        unfold charN
                        repeat' split
                        all_goals omega
                    · refine L_ps ?_
                      refine L_ps ?_
                      refine L_r (r_pf rfl rfl) ?_
                      refine L_nil ?_
                      refine W_false rfl ?_
                      refine W_skip ?_
                      refine W_seq ?_
                      refine W_region ?_
                      refine L_r (r_ai rfl) ?_
                      refine L_nil ?_
                      refine W_ret ?_
                      refine ret1 (v := .int _ _) rfl rfl ?_
                      refine ⟨congrArg (fun x : Nat => Value.int .i64 (x : Int)) (?_ : _ = charN _ _ _ _ _), Ch.au⟩
                      unfold charN
                      repeat' split
                      all_goals omega
                  · try (replace h62 := of_decide_eq_false h62)
                    refine W_skip ?_
                    refine W_seq ?_
                    refine W_region ?_
                    refine L_r (r_ai rfl) ?_
                    refine L_nil ?_
                    refine W_ret ?_
                    refine ret1 (v := .int _ _) rfl rfl ?_
                    refine ⟨congrArg (fun x : Nat => Value.int .i64 (x : Int)) (?_ : _ = charN _ _ _ _ _), Ch.au⟩
                    unfold charN
                    repeat' split
                    all_goals omega
                · try (replace h77 := of_decide_eq_false h77)
                  refine L_ps ?_
                  refine L_ps ?_
                  refine L_r (r_pf rfl rfl) ?_
                  refine L_r (r_ab rfl) ?_
                  refine L_nil ?_
                  refine W_false rfl ?_
                  refine W_skip ?_
                  refine W_seq ?_
                  refine W_region ?_
                  refine L_r (r_ai rfl) ?_
                  refine L_nil ?_
                  refine W_ret ?_
                  refine ret1 (v := .int _ _) rfl rfl ?_
                  refine ⟨congrArg (fun x : Nat => Value.int .i64 (x : Int)) (?_ : _ = charN _ _ _ _ _), Ch.au⟩
                  unfold charN
                  repeat' split
                  all_goals omega
              · try (replace h73 := of_decide_eq_false h73)
                refine L_ps ?_
                refine L_ps ?_
                refine L_r (r_pf rfl rfl) ?_
                refine L_r (r_mb rfl) ?_
                refine L_ps ?_
                refine L_ps ?_
                refine L_r (r_pf rfl rfl) ?_
                refine L_r (r_ab rfl) ?_
                refine L_nil ?_
                refine W_false rfl ?_
                refine W_skip ?_
                refine W_seq ?_
                refine W_region ?_
                refine L_r (r_ai rfl) ?_
                refine L_nil ?_
                refine W_ret ?_
                refine ret1 (v := .int _ _) rfl rfl ?_
                refine ⟨congrArg (fun x : Nat => Value.int .i64 (x : Int)) (?_ : _ = charN _ _ _ _ _), Ch.au⟩
                unfold charN
                repeat' split
                all_goals omega
            · refine L_ps ?_
              refine L_ps ?_
              refine L_r (r_pf rfl rfl) ?_
              refine L_r (r_mb rfl) ?_
              refine L_ps ?_
              refine L_ps ?_
              refine L_r (r_pf rfl rfl) ?_
              refine L_r (r_mb rfl) ?_
              refine L_ps ?_
              refine L_ps ?_
              refine L_r (r_pf rfl rfl) ?_
              refine L_r (r_ab rfl) ?_
              refine L_nil ?_
              refine W_false rfl ?_
              refine W_skip ?_
              refine W_seq ?_
              refine W_region ?_
              refine L_r (r_ai rfl) ?_
              refine L_nil ?_
              refine W_ret ?_
              refine ret1 (v := .int _ _) rfl rfl ?_
              refine ⟨congrArg (fun x : Nat => Value.int .i64 (x : Int)) (?_ : _ = charN _ _ _ _ _), Ch.au⟩
              unfold charN
              repeat' split
              all_goals omega
          · refine L_ps ?_
            refine L_ps ?_
            refine L_r (r_pf rfl rfl) ?_
            refine L_r (r_mb rfl) ?_
            refine L_ps ?_
            refine L_ps ?_
            refine L_r (r_pf rfl rfl) ?_
            refine L_r (r_mb rfl) ?_
            refine L_ps ?_
            refine L_ps ?_
            refine L_r (r_pf rfl rfl) ?_
            refine L_r (r_mb rfl) ?_
            refine L_ps ?_
            refine L_ps ?_
            refine L_r (r_pf rfl rfl) ?_
            refine L_r (r_ab rfl) ?_
            refine L_nil ?_
            refine W_false rfl ?_
            refine W_skip ?_
            refine W_seq ?_
            refine W_region ?_
            refine L_r (r_ai rfl) ?_
            refine L_nil ?_
            refine W_ret ?_
            refine ret1 (v := .int _ _) rfl rfl ?_
            refine ⟨congrArg (fun x : Nat => Value.int .i64 (x : Int)) (?_ : _ = charN _ _ _ _ _), Ch.au⟩
            unfold charN
            repeat' split
            all_goals omega
    · refine L_ps ?_
      refine L_ps ?_
      refine L_r (r_pf rfl rfl) ?_
      refine L_r (r_mb rfl) ?_
      refine L_ps ?_
      refine L_ps ?_
      refine L_r (r_pf rfl rfl) ?_
      refine L_r (r_ab rfl) ?_
      refine L_nil ?_
      refine W_false rfl ?_
      refine W_seq ?_
      refine W_region ?_
      refine L_r (r_mi rfl) ?_
      refine L_r (r_geq rfl rfl) ?_
      refine L_r (r_mb rfl) ?_
      refine L_case (d := 26) rfl (fun h26 => ?_) (fun h26 => ?_)
      · refine L_g (r_mi rfl) ?_
        refine L_g (r_lss rfl rfl) ?_
        refine L_r (r_pt rfl rfl) ?_
        refine L_r (r_mb rfl) ?_
        refine L_case (d := 30) rfl (fun h30 => ?_) (fun h30 => ?_)
        · refine L_g (r_ms rfl) ?_
          refine L_call (.yes 6 true rfl rfl) rfl rfl (r_call Tryz.func87 rfl rfl rfl (by rfl)) (after_walk s 1 _) ?_
          rintro v32 w40 ⟨rfl, rfl⟩
          refine L_r (r_pt rfl rfl) ?_
          refine L_r (r_mb rfl) ?_
          refine L_caseb (d := 34) rfl (fun h34 => ?_) (fun h34 => ?_)
          · try (replace h34 := of_decide_eq_true h34)
            refine L_g (r_ms rfl) ?_
            refine L_call (.yes 10 true rfl rfl) rfl rfl (r_call Tryz.func87 rfl rfl rfl (by rfl)) (after_walk s 2 _) ?_
            rintro v36 w41 ⟨rfl, rfl⟩
            refine L_r (r_pt rfl rfl) ?_
            refine L_r (r_ab rfl) ?_
            refine L_nil ?_
            refine W_bool rfl (fun h23 => ?_) (fun h23 => ?_)
            · try (replace h23 := of_decide_eq_true h23)
              refine W_seq ?_
              refine W_still (by kernel_rfl) (by kernel_rfl) (fun w42 c42 hs42 => ?_)
              refine H_r (r_mi rfl) ?_
              refine H_r (r_remn rfl rfl (by omega) (by omega)) ?_
              refine H_r (r_mul rfl rfl (by first | exact wr_i64 (by omega) | rfl)) ?_
              refine H_r (r_ms rfl) ?_
              refine H_r (r_indexs Tryz.underlying9 rfl rfl (by omega) (by omega) (by conv => lhs; (try simp only [Nat.mul_one, Nat.zero_add, Int.toNat_natCast, Int.toNat_zero, Int.reduceToNat, Nat.reduceMul, Nat.reduceAdd]))) ?_
              refine H_r (r_remn rfl rfl (by omega) (by omega)) ?_
              refine H_r (r_conv Tryz.underlying5 Tryz.underlying3 rfl (by first | exact wr_i64 (by omega) | rfl)) ?_
              refine H_r (r_mul rfl rfl (by first | exact wr_i64 (by omega) | rfl)) ?_
              refine H_r (r_add rfl rfl (by first | exact wr_i64 (by omega) | rfl)) ?_
              refine H_r (r_ms rfl) ?_
              refine H_r (r_indexs Tryz.underlying9 rfl rfl (by omega) (by omega) (by conv => lhs; (try simp only [Nat.mul_one, Nat.zero_add, Int.toNat_natCast, Int.toNat_zero, Int.reduceToNat, Nat.reduceMul, Nat.reduceAdd]))) ?_
              refine H_r (r_remn rfl rfl (by omega) (by omega)) ?_
              refine H_r (r_conv Tryz.underlying5 Tryz.underlying3 rfl (by first | exact wr_i64 (by omega) | rfl)) ?_
              refine H_r (r_add rfl rfl (by first | exact wr_i64 (by omega) | rfl)) ?_
              refine H_r (r_ai rfl) ?_
              refine H_nil ?_
              refine W_seq ?_
              refine W_region ?_
              refine L_r (r_mi rfl) ?_
              refine L_r (r_geq rfl rfl) ?_
              refine L_r (r_mb rfl) ?_
              refine L_case (d := 54) rfl (fun h54 => ?_) (fun h54 => ?_)
              · refine L_g (r_mi rfl) ?_
                refine L_g (r_lss rfl rfl) ?_
                refine L_g (r_mb rfl) ?_
                refine L_case (d := 57) rfl (fun h57 => ?_) (fun h57 => ?_)
                · refine L_ps ?_
                  refine L_ps ?_
                  refine L_g (r_pt rfl rfl) ?_
                  refine L_r (r_pt rfl rfl) ?_
                  refine L_nil ?_
                  refine W_true rfl ?_
                  refine W_seq ?_
                  refine W_region ?_
                  refine L_r (r_ai rfl) ?_
                  refine L_nil ?_
                  refine W_ret ?_
                  refine ret1 (v := .int _ _) rfl rfl ?_
                  refine ⟨congrArg (fun x : Nat => Value.int .i64 (x : Int)) (?_ : _ = charN _ _ _ _ _), Ch.au⟩
                  unfold charN
                  repeat' split
                  all_goals omega
                · refine L_g (r_mi rfl) ?_
                  refine L_g (r_gtr rfl rfl) ?_
                  refine L_g (r_pf rfl rfl) ?_
                  refine L_r (r_pt rfl rfl) ?_
                  refine L_nil ?_
                  refine W_if rfl (fun h61 => ?_) (fun h61 => ?_)
                  · refine W_seq ?_
                    refine W_region ?_
                    refine L_r (r_ai rfl) ?_
                    refine L_nil ?_
                    refine W_ret ?_
                    refine ret1 (v := .int _ _) rfl rfl ?_
                    refine ⟨congrArg (fun x : Nat => Value.int .i64 (x : Int)) (?_ : _ = charN _ _ _ _ _), Ch.au⟩
                    unfold charN
                    repeat' split
                    all_goals omega
                  · refine W_skip ?_
                    refine W_seq ?_
                    refine W_region ?_
                    refine L_r (r_ai rfl) ?_
                    refine L_nil ?_
                    refine W_ret ?_
                    refine ret1 (v := .int _ _) rfl rfl ?_
                    refine ⟨congrArg (fun x : Nat => Value.int .i64 (x : Int)) (?_ : _ = charN _ _ _ _ _), Ch.au⟩
                    unfold charN
                    repeat' split
                    all_goals omega
              · refine L_ps ?_
                refine L_ps ?_
                refine L_ps ?_
                refine L_pu ?_
                refine L_pu ?_
                refine L_ps ?_
                refine L_r (r_pf rfl rfl) ?_
                refine L_nil ?_
                refine W_false rfl ?_
                refine W_skip ?_
                refine W_seq ?_
                refine W_region ?_
                refine L_r (r_ai rfl) ?_
                refine L_nil ?_
                refine W_ret ?_
                refine ret1 (v := .int _ _) rfl rfl ?_
                refine ⟨congrArg (fun x : Nat => Value.int .i64 (x : Int)) (?_ : _ = charN _ _ _ _ _), Ch.au⟩
                unfold charN
                repeat' split
                all_goals omega
            · try (replace h23 := of_decide_eq_false h23)
              refine W_seq ?_
              refine W_region ?_
              refine L_r (r_mi rfl) ?_
              refine L_r (r_geq rfl rfl) ?_
              refine L_r (r_mb rfl) ?_
              refine L_case (d := 65) rfl (fun h65 => ?_) (fun h65 => ?_)
              · refine L_g (r_mi rfl) ?_
                refine L_g (r_lss rfl rfl) ?_
                refine L_r (r_pt rfl rfl) ?_
                refine L_r (r_mb rfl) ?_
                refine L_case (d := 69) rfl (fun h69 => ?_) (fun h69 => ?_)
                · refine L_g (r_ms rfl) ?_
                  refine L_call (.yes 6 true rfl rfl) rfl rfl (r_call Tryz.func87 rfl rfl rfl (by rfl)) (after_walk s 1 _) ?_
                  rintro v71 w43 ⟨rfl, rfl⟩
                  refine L_r (r_pt rfl rfl) ?_
                  refine L_r (r_mb rfl) ?_
                  refine L_caseb (d := 73) rfl (fun h73 => ?_) (fun h73 => ?_)
                  · try (replace h73 := of_decide_eq_true h73)
                    refine L_g (r_ms rfl) ?_
                    refine L_call (.yes 10 true rfl rfl) rfl rfl (r_call Tryz.func87 rfl rfl rfl (by rfl)) (after_walk s 2 _) ?_
                    rintro v75 w44 ⟨rfl, rfl⟩
                    refine L_r (r_pt rfl rfl) ?_
                    refine L_r (r_mb rfl) ?_
                    refine L_caseb (d := 77) rfl (fun h77 => ?_) (fun h77 => ?_)
                    · try (replace h77 := of_decide_eq_true h77)
                      refine L_g (r_ms rfl) ?_
                      refine L_call (.yes 14 true rfl rfl) rfl rfl (r_call Tryz.func87 rfl rfl rfl (by rfl)) (after_walk s 3 _) ?_
                      rintro v79 w45 ⟨rfl, rfl⟩
                      refine L_r (r_pt rfl rfl) ?_
                      refine L_r (r_ab rfl) ?_
                      refine L_nil ?_
                      refine W_bool rfl (fun h62 => ?_) (fun h62 => ?_)
                      · try (replace h62 := of_decide_eq_true h62)
                        refine W_seq ?_
                        refine W_still (by kernel_rfl) (by kernel_rfl) (fun w46 c46 hs46 => ?_)
                        refine H_r (r_mi rfl) ?_
                        refine H_r (r_remn rfl rfl (by omega) (by omega)) ?_
                        refine H_r (r_mul rfl rfl (by first | exact wr_i64 (by omega) | rfl)) ?_
                        refine H_r (r_ms rfl) ?_
                        refine H_r (r_indexs Tryz.underlying9 rfl rfl (by omega) (by omega) (by conv => lhs; (try simp only [Nat.mul_one, Nat.zero_add, Int.toNat_natCast, Int.toNat_zero, Int.reduceToNat, Nat.reduceMul, Nat.reduceAdd]))) ?_
                        refine H_r (r_remn rfl rfl (by omega) (by omega)) ?_
                        refine H_r (r_conv Tryz.underlying5 Tryz.underlying3 rfl (by first | exact wr_i64 (by omega) | rfl)) ?_
                        refine H_r (r_mul rfl rfl (by first | exact wr_i64 (by omega) | rfl)) ?_
                        refine H_r (r_add rfl rfl (by first | exact wr_i64 (by omega) | rfl)) ?_
                        refine H_r (r_ms rfl) ?_
                        refine H_r (r_indexs Tryz.underlying9 rfl rfl (by omega) (by omega) (by conv => lhs; (try simp only [Nat.mul_one, Nat.zero_add, Int.toNat_natCast, Int.toNat_zero, Int.reduceToNat, Nat.reduceMul, Nat.reduceAdd]))) ?_
                        refine H_r (r_remn rfl rfl (by omega) (by omega)) ?_
                        refine H_r (r_conv Tryz.underlying5 Tryz.underlying3 rfl (by first | exact wr_i64 (by omega) | rfl)) ?_
                        refine H_r (r_mul rfl rfl (by first | exact wr_i64 (by omega) | rfl)) ?_
                        refine H_r (r_add rfl rfl (by first | exact wr_i64 (by omega) | rfl)) ?_
                        refine H_r (r_ms rfl) ?_
                        refine H_r (r_indexs Tryz.underlying9 rfl rfl (by omega) (by omega) (by conv => lhs; (try simp only [Nat.mul_one, Nat.zero_add, Int.toNat_natCast, Int.toNat_zero, Int.reduceToNat, Nat.reduceMul, Nat.reduceAdd]))) ?_
                        refine H_r (r_remn rfl rfl (by omega) (by omega)) ?_
                        refine H_r (r_conv Tryz.underlying5 Tryz.underlying3 rfl (by first | exact wr_i64 (by omega) | rfl)) ?_
                        refine H_r (r_add rfl rfl (by first | exact wr_i64 (by omega) | rfl)) ?_
                        refine H_r (r_ai rfl) ?_
                        refine H_nil ?_
                        refine W_seq ?_
                        refine W_region ?_
                        refine L_r (r_mi rfl) ?_
                        refine L_r (r_geq rfl rfl) ?_
                        refine L_r (r_mb rfl) ?_
                        refine L_case (d := 103) rfl (fun h103 => ?_) (fun h103 => ?_)
                        · refine L_g (r_mi rfl) ?_
                          refine L_g (r_leq rfl rfl) ?_
                          refine L_r (r_pt rfl rfl) ?_
                          refine L_nil ?_
                          refine W_if rfl (fun h106 => ?_) (fun h106 => ?_)
                          · refine W_seq ?_
                            refine W_region ?_
                            refine L_r (r_ai rfl) ?_
                            refine L_nil ?_
                            refine W_ret ?_
                            refine ret1 (v := .int _ _) rfl rfl ?_
                            refine ⟨congrArg (fun x : Nat => Value.int .i64 (x : Int)) (?_ : _ = charN _ _ _ _ _), Ch.au⟩
                            unfold charN
                            repeat' split
                            all_goals omega
                          · refine W_skip ?_
                            refine W_seq ?_
                            refine W_region ?_
                            refine L_r (r_ai rfl) ?_
                            refine L_nil ?_
                            refine W_ret ?_
                            refine ret1 (v := .int _ _) rfl rfl ?_
                            refine ⟨congrArg (fun x : Nat => Value.int .i64 (x : Int)) (?_ : _ = charN _ _ _ _ _), Ch.au⟩
                            unfold charN
                            repeat' split
                            all_goals omega
                        · refine L_ps ?_
                          refine L_ps ?_
                          refine L_r (r_pf rfl rfl) ?_
                          refine L_nil ?_
                          refine W_false rfl ?_
                          refine W_skip ?_
                          refine W_seq ?_
                          refine W_region ?_
                          refine L_r (r_ai rfl) ?_
                          refine L_nil ?_
                          refine W_ret ?_
                          refine ret1 (v := .int _ _) rfl rfl ?_
                          refine ⟨congrArg (fun x : Nat => Value.int .i64 (x : Int)) (?_ : _ = charN _ _ _ _ _), Ch.au⟩
                          unfold charN
                          repeat' split
                          all_goals omega
                      · try (replace h62 := of_decide_eq_false h62)
                        refine W_skip ?_
                        refine W_seq ?_
                        refine W_region ?_
                        refine L_r (r_ai rfl) ?_
                        refine L_nil ?_
                        refine W_ret ?_
                        refine ret1 (v := .int _ _) rfl rfl ?_
                        refine ⟨congrArg (fun x : Nat => Value.int .i64 (x : Int)) (?_ : _ = charN _ _ _ _ _), Ch.au⟩
                        unfold charN
                        repeat' split
                        all_goals omega
                    · try (replace h77 := of_decide_eq_false h77)
                      refine L_ps ?_
                      refine L_ps ?_
                      refine L_r (r_pf rfl rfl) ?_
                      refine L_r (r_ab rfl) ?_
                      refine L_nil ?_
                      refine W_false rfl ?_
                      refine W_skip ?_
                      refine W_seq ?_
                      refine W_region ?_
                      refine L_r (r_ai rfl) ?_
                      refine L_nil ?_
                      refine W_ret ?_
                      refine ret1 (v := .int _ _) rfl rfl ?_
                      refine ⟨congrArg (fun x : Nat => Value.int .i64 (x : Int)) (?_ : _ = charN _ _ _ _ _), Ch.au⟩
                      unfold charN
                      repeat' split
                      all_goals omega
                  · try (replace h73 := of_decide_eq_false h73)
                    refine L_ps ?_
                    refine L_ps ?_
                    refine L_r (r_pf rfl rfl) ?_
                    refine L_r (r_mb rfl) ?_
                    refine L_ps ?_
                    refine L_ps ?_
                    refine L_r (r_pf rfl rfl) ?_
                    refine L_r (r_ab rfl) ?_
                    refine L_nil ?_
                    refine W_false rfl ?_
                    refine W_skip ?_
                    refine W_seq ?_
                    refine W_region ?_
                    refine L_r (r_ai rfl) ?_
                    refine L_nil ?_
                    refine W_ret ?_
                    refine ret1 (v := .int _ _) rfl rfl ?_
                    refine ⟨congrArg (fun x : Nat => Value.int .i64 (x : Int)) (?_ : _ = charN _ _ _ _ _), Ch.au⟩
                    unfold charN
                    repeat' split
                    all_goals omega
                · refine L_ps ?_
                  refine L_ps ?_
                  refine L_r (r_pf rfl rfl) ?_
                  refine L_r (r_mb rfl) ?_
                  refine L_ps ?_
                  refine L_ps ?_
                  refine L_r (r_pf rfl rfl) ?_
                  refine L_r (r_mb rfl) ?_
                  refine L_ps ?_
                  refine L_ps ?_
                  refine L_r (r_pf rfl rfl) ?_
                  refine L_r (r_ab rfl) ?_
                  refine L_nil ?_
                  refine W_false rfl ?_
                  refine W_skip ?_
                  refine W_seq ?_
                  refine W_region ?_
                  refine L_r (r_ai rfl) ?_
                  refine L_nil ?_
                  refine W_ret ?_
                  refine ret1 (v := .int _ _) rfl rfl ?_
                  refine ⟨congrArg (fun x : Nat => Value.int .i64 (x : Int)) (?_ : _ = charN _ _ _ _ _), Ch.au⟩
                  unfold charN
                  repeat' split
                  all_goals omega
              · refine L_ps ?_
                refine L_ps ?_
                refine L_r (r_pf rfl rfl) ?_
                refine L_r (r_mb rfl) ?_
                refine L_ps ?_
                refine L_ps ?_
                refine L_r (r_pf rfl rfl) ?_
                refine L_r (r_mb rfl) ?_
                refine L_ps ?_
                refine L_ps ?_
                refine L_r (r_pf rfl rfl) ?_
                refine L_r (r_mb rfl) ?_
                refine L_ps ?_
                refine L_ps ?_
                refine L_r (r_pf rfl rfl) ?_
                refine L_r (r_ab rfl) ?_
                refine L_nil ?_
                refine W_false rfl ?_
                refine W_skip ?_
                refine W_seq ?_
                refine W_region ?_
                refine L_r (r_ai rfl) ?_
                refine L_nil ?_
                refine W_ret ?_
                refine ret1 (v := .int _ _) rfl rfl ?_
                refine ⟨congrArg (fun x : Nat => Value.int .i64 (x : Int)) (?_ : _ = charN _ _ _ _ _), Ch.au⟩
                unfold charN
                repeat' split
                all_goals omega
          · try (replace h34 := of_decide_eq_false h34)
            refine L_ps ?_
            refine L_ps ?_
            refine L_r (r_pf rfl rfl) ?_
            refine L_r (r_ab rfl) ?_
            refine L_nil ?_
            refine W_false rfl ?_
            refine W_seq ?_
            refine W_region ?_
            refine L_r (r_mi rfl) ?_
            refine L_r (r_geq rfl rfl) ?_
            refine L_r (r_mb rfl) ?_
            refine L_case (d := 65) rfl (fun h65 => ?_) (fun h65 => ?_)
            · refine L_g (r_mi rfl) ?_
              refine L_g (r_lss rfl rfl) ?_
              refine L_r (r_pt rfl rfl) ?_
              refine L_r (r_mb rfl) ?_
              refine L_case (d := 69) rfl (fun h69 => ?_) (fun h69 => ?_)
              · refine L_g (r_ms rfl) ?_
                refine L_call (.yes 6 true rfl rfl) rfl rfl (r_call Tryz.func87 rfl rfl rfl (by rfl)) (after_walk s 1 _) ?_
                rintro v71 w47 ⟨rfl, rfl⟩
                refine L_r (r_pt rfl rfl) ?_
                refine L_r (r_mb rfl) ?_
                refine L_caseb (d := 73) rfl (fun h73 => ?_) (fun h73 => ?_)
                · try (replace h73 := of_decide_eq_true h73)
                  refine L_g (r_ms rfl) ?_
                  refine L_call (.yes 10 true rfl rfl) rfl rfl (r_call Tryz.func87 rfl rfl rfl (by rfl)) (after_walk s 2 _) ?_
                  rintro v75 w48 ⟨rfl, rfl⟩
                  refine L_r (r_pt rfl rfl) ?_
                  refine L_r (r_mb rfl) ?_
                  refine L_caseb (d := 77) rfl (fun h77 => ?_) (fun h77 => ?_)
                  · try (replace h77 := of_decide_eq_true h77)
                    refine L_g (r_ms rfl) ?_
                    refine L_call (.yes 14 true rfl rfl) rfl rfl (r_call Tryz.func87 rfl rfl rfl (by rfl)) (after_walk s 3 _) ?_
                    rintro v79 w49 ⟨rfl, rfl⟩
                    refine L_r (r_pt rfl rfl) ?_
                    refine L_r (r_ab rfl) ?_
                    refine L_nil ?_
                    refine W_bool rfl (fun h62 => ?_) (fun h62 => ?_)
                    · try (replace h62 := of_decide_eq_true h62)
                      refine W_seq ?_
                      refine W_still (by kernel_rfl) (by kernel_rfl) (fun w50 c50 hs50 => ?_)
                      refine H_r (r_mi rfl) ?_
                      refine H_r (r_remn rfl rfl (by omega) (by omega)) ?_
                      refine H_r (r_mul rfl rfl (by first | exact wr_i64 (by omega) | rfl)) ?_
                      refine H_r (r_ms rfl) ?_
                      refine H_r (r_indexs Tryz.underlying9 rfl rfl (by omega) (by omega) (by conv => lhs; (try simp only [Nat.mul_one, Nat.zero_add, Int.toNat_natCast, Int.toNat_zero, Int.reduceToNat, Nat.reduceMul, Nat.reduceAdd]))) ?_
                      refine H_r (r_remn rfl rfl (by omega) (by omega)) ?_
                      refine H_r (r_conv Tryz.underlying5 Tryz.underlying3 rfl (by first | exact wr_i64 (by omega) | rfl)) ?_
                      refine H_r (r_mul rfl rfl (by first | exact wr_i64 (by omega) | rfl)) ?_
                      refine H_r (r_add rfl rfl (by first | exact wr_i64 (by omega) | rfl)) ?_
                      refine H_r (r_ms rfl) ?_
                      refine H_r (r_indexs Tryz.underlying9 rfl rfl (by omega) (by omega) (by conv => lhs; (try simp only [Nat.mul_one, Nat.zero_add, Int.toNat_natCast, Int.toNat_zero, Int.reduceToNat, Nat.reduceMul, Nat.reduceAdd]))) ?_
                      refine H_r (r_remn rfl rfl (by omega) (by omega)) ?_
                      refine H_r (r_conv Tryz.underlying5 Tryz.underlying3 rfl (by first | exact wr_i64 (by omega) | rfl)) ?_
                      refine H_r (r_mul rfl rfl (by first | exact wr_i64 (by omega) | rfl)) ?_
                      refine H_r (r_add rfl rfl (by first | exact wr_i64 (by omega) | rfl)) ?_
                      refine H_r (r_ms rfl) ?_
                      refine H_r (r_indexs Tryz.underlying9 rfl rfl (by omega) (by omega) (by conv => lhs; (try simp only [Nat.mul_one, Nat.zero_add, Int.toNat_natCast, Int.toNat_zero, Int.reduceToNat, Nat.reduceMul, Nat.reduceAdd]))) ?_
                      refine H_r (r_remn rfl rfl (by omega) (by omega)) ?_
                      refine H_r (r_conv Tryz.underlying5 Tryz.underlying3 rfl (by first | exact wr_i64 (by omega) | rfl)) ?_
                      refine H_r (r_add rfl rfl (by first | exact wr_i64 (by omega) | rfl)) ?_
                      refine H_r (r_ai rfl) ?_
                      refine H_nil ?_
                      refine W_seq ?_
                      refine W_region ?_
                      refine L_r (r_mi rfl) ?_
                      refine L_r (r_geq rfl rfl) ?_
                      refine L_r (r_mb rfl) ?_
                      refine L_case (d := 103) rfl (fun h103 => ?_) (fun h103 => ?_)
                      · refine L_g (r_mi rfl) ?_
                        refine L_g (r_leq rfl rfl) ?_
                        refine L_r (r_pt rfl rfl) ?_
                        refine L_nil ?_
                        refine W_if rfl (fun h106 => ?_) (fun h106 => ?_)
                        · refine W_seq ?_
                          refine W_region ?_
                          refine L_r (r_ai rfl) ?_
                          refine L_nil ?_
                          refine W_ret ?_
                          refine ret1 (v := .int _ _) rfl rfl ?_
                          refine ⟨congrArg (fun x : Nat => Value.int .i64 (x : Int)) (?_ : _ = charN _ _ _ _ _), Ch.au⟩
                          unfold charN
                          repeat' split
                          all_goals omega
                        · refine W_skip ?_
                          refine W_seq ?_
                          refine W_region ?_
                          refine L_r (r_ai rfl) ?_
                          refine L_nil ?_
                          refine W_ret ?_
                          refine ret1 (v := .int _ _) rfl rfl ?_
                          refine ⟨congrArg (fun x : Nat => Value.int .i64 (x : Int)) (?_ : _ = charN _ _ _ _ _), Ch.au⟩
                          unfold charN
                          repeat' split
                          all_goals omega
                      · refine L_ps ?_
                        refine L_ps ?_
                        refine L_r (r_pf rfl rfl) ?_
                        refine L_nil ?_
                        refine W_false rfl ?_
                        refine W_skip ?_
                        refine W_seq ?_
                        refine W_region ?_
                        refine L_r (r_ai rfl) ?_
                        refine L_nil ?_
                        refine W_ret ?_
                        refine ret1 (v := .int _ _) rfl rfl ?_
                        refine ⟨congrArg (fun x : Nat => Value.int .i64 (x : Int)) (?_ : _ = charN _ _ _ _ _), Ch.au⟩
                        unfold charN
                        repeat' split
                        all_goals omega
                    · try (replace h62 := of_decide_eq_false h62)
                      refine W_skip ?_
                      refine W_seq ?_
                      refine W_region ?_
                      refine L_r (r_ai rfl) ?_
                      refine L_nil ?_
                      refine W_ret ?_
                      refine ret1 (v := .int _ _) rfl rfl ?_
                      refine ⟨congrArg (fun x : Nat => Value.int .i64 (x : Int)) (?_ : _ = charN _ _ _ _ _), Ch.au⟩
                      unfold charN
                      repeat' split
                      all_goals omega
                  · try (replace h77 := of_decide_eq_false h77)
                    refine L_ps ?_
                    refine L_ps ?_
                    refine L_r (r_pf rfl rfl) ?_
                    refine L_r (r_ab rfl) ?_
                    refine L_nil ?_
                    refine W_false rfl ?_
                    refine W_skip ?_
                    refine W_seq ?_
                    refine W_region ?_
                    refine L_r (r_ai rfl) ?_
                    refine L_nil ?_
                    refine W_ret ?_
                    refine ret1 (v := .int _ _) rfl rfl ?_
                    refine ⟨congrArg (fun x : Nat => Value.int .i64 (x : Int)) (?_ : _ = charN _ _ _ _ _), Ch.au⟩
                    unfold charN
                    repeat' split
                    all_goals omega
                · try (replace h73 := of_decide_eq_false h73)
                  refine L_ps ?_
                  refine L_ps ?_
                  refine L_r (r_pf rfl rfl) ?_
                  refine L_r (r_mb rfl) ?_
                  refine L_ps ?_
                  refine L_ps ?_
                  refine L_r (r_pf rfl rfl) ?_
                  refine L_r (r_ab rfl) ?_
                  refine L_nil ?_
                  refine W_false rfl ?_
                  refine W_skip ?_
                  refine W_seq ?_
                  refine W_region ?_
                  refine L_r (r_ai rfl) ?_
                  refine L_nil ?_
                  refine W_ret ?_
                  refine ret1 (v := .int _ _) rfl rfl ?_
                  refine ⟨congrArg (fun x : Nat => Value.int .i64 (x : Int)) (?_ : _ = charN _ _ _ _ _), Ch.au⟩
                  unfold charN
                  repeat' split
                  all_goals omega
              · refine L_ps ?_
                refine L_ps ?_
                refine L_r (r_pf rfl rfl) ?_
                refine L_r (r_mb rfl) ?_
                refine L_ps ?_
                refine L_ps ?_
                refine L_r (r_pf rfl rfl) ?_
                refine L_r (r_mb rfl) ?_
                refine L_ps ?_
                refine L_ps ?_
                refine L_r (r_pf rfl rfl) ?_
                refine L_r (r_ab rfl) ?_
                refine L_nil ?_
                refine W_false rfl ?_
                refine W_skip ?_
                refine W_seq ?_
                refine W_region ?_
                refine L_r (r_ai rfl) ?_
                refine L_nil ?_
                refine W_ret ?_
                refine ret1 (v := .int _ _) rfl rfl ?_
                refine ⟨congrArg (fun x : Nat => Value.int .i64 (x : Int)) (?_ : _ = charN _ _ _ _ _), Ch.au⟩
                unfold charN
                repeat' split
                all_goals omega
            · refine L_ps ?_
              refine L_ps ?_
              refine L_r (r_pf rfl rfl) ?_
              refine L_r (r_mb rfl) ?_
              refine L_ps ?_
              refine L_ps ?_
              refine L_r (r_pf rfl rfl) ?_
              refine L_r (r_mb rfl) ?_
              refine L_ps ?_
              refine L_ps ?_
              refine L_r (r_pf rfl rfl) ?_
              refine L_r (r_mb rfl) ?_
              refine L_ps ?_
              refine L_ps ?_
              refine L_r (r_pf rfl rfl) ?_
              refine L_r (r_ab rfl) ?_
              refine L_nil ?_
              refine W_false rfl ?_
              refine W_skip ?_
              refine W_seq ?_
              refine W_region ?_
              refine L_r (r_ai rfl) ?_
              refine L_nil ?_
              refine W_ret ?_
              refine ret1 (v := .int _ _) rfl rfl ?_
              refine ⟨congrArg (fun x : Nat => Value.int .i64 (x : Int)) (?_ : _ = charN _ _ _ _ _), Ch.au⟩
              unfold charN
              repeat' split
              all_goals omega
        · refine L_ps ?_
          refine L_ps ?_
          refine L_r (r_pf rfl rfl) ?_
          refine L_r (r_mb rfl) ?_
          refine L_ps ?_
          refine L_ps ?_
          refine L_r (r_pf rfl rfl) ?_
          refine L_r (r_ab rfl) ?_
          refine L_nil ?_
          refine W_false rfl ?_
          refine W_seq ?_
          refine W_region ?_
          refine L_r (r_mi rfl) ?_
          refine L_r (r_geq rfl rfl) ?_
          refine L_r (r_mb rfl) ?_
          refine L_case (d := 65) rfl (fun h65 => ?_) (fun h65 => ?_)
          · refine L_g (r_mi rfl) ?_
            refine L_g (r_lss rfl rfl) ?_
            refine L_r (r_pt rfl rfl) ?_
            refine L_r (r_mb rfl) ?_
            refine L_case (d := 69) rfl (fun h69 => ?_) (fun h69 => ?_)
            · refine L_g (r_ms rfl) ?_
              refine L_call (.yes 6 true rfl rfl) rfl rfl (r_call Tryz.func87 rfl rfl rfl (by rfl)) (after_walk s 1 _) ?_
              rintro v71 w51 ⟨rfl, rfl⟩
              refine L_r (r_pt rfl rfl) ?_
              refine L_r (r_mb rfl) ?_
              refine L_caseb (d := 73) rfl (fun h73 => ?_) (fun h73 => ?_)
              · try (replace h73 := of_decide_eq_true h73)
                refine L_g (r_ms rfl) ?_
                refine L_call (.yes 10 true rfl rfl) rfl rfl (r_call Tryz.func87 rfl rfl rfl (by rfl)) (after_walk s 2 _) ?_
                rintro v75 w52 ⟨rfl, rfl⟩
                refine L_r (r_pt rfl rfl) ?_
                refine L_r (r_mb rfl) ?_
                refine L_caseb (d := 77) rfl (fun h77 => ?_) (fun h77 => ?_)
                · try (replace h77 := of_decide_eq_true h77)
                  refine L_g (r_ms rfl) ?_
                  refine L_call (.yes 14 true rfl rfl) rfl rfl (r_call Tryz.func87 rfl rfl rfl (by rfl)) (after_walk s 3 _) ?_
                  rintro v79 w53 ⟨rfl, rfl⟩
                  refine L_r (r_pt rfl rfl) ?_
                  refine L_r (r_ab rfl) ?_
                  refine L_nil ?_
                  refine W_bool rfl (fun h62 => ?_) (fun h62 => ?_)
                  · try (replace h62 := of_decide_eq_true h62)
                    refine W_seq ?_
                    refine W_still (by kernel_rfl) (by kernel_rfl) (fun w54 c54 hs54 => ?_)
                    refine H_r (r_mi rfl) ?_
                    refine H_r (r_remn rfl rfl (by omega) (by omega)) ?_
                    refine H_r (r_mul rfl rfl (by first | exact wr_i64 (by omega) | rfl)) ?_
                    refine H_r (r_ms rfl) ?_
                    refine H_r (r_indexs Tryz.underlying9 rfl rfl (by omega) (by omega) (by conv => lhs; (try simp only [Nat.mul_one, Nat.zero_add, Int.toNat_natCast, Int.toNat_zero, Int.reduceToNat, Nat.reduceMul, Nat.reduceAdd]))) ?_
                    refine H_r (r_remn rfl rfl (by omega) (by omega)) ?_
                    refine H_r (r_conv Tryz.underlying5 Tryz.underlying3 rfl (by first | exact wr_i64 (by omega) | rfl)) ?_
                    refine H_r (r_mul rfl rfl (by first | exact wr_i64 (by omega) | rfl)) ?_
                    refine H_r (r_add rfl rfl (by first | exact wr_i64 (by omega) | rfl)) ?_
                    refine H_r (r_ms rfl) ?_
                    refine H_r (r_indexs Tryz.underlying9 rfl rfl (by omega) (by omega) (by conv => lhs; (try simp only [Nat.mul_one, Nat.zero_add, Int.toNat_natCast, Int.toNat_zero, Int.reduceToNat, Nat.reduceMul, Nat.reduceAdd]))) ?_
                    refine H_r (r_remn rfl rfl (by omega) (by omega)) ?_
                    refine H_r (r_conv Tryz.underlying5 Tryz.underlying3 rfl (by first | exact wr_i64 (by omega) | rfl)) ?_
                    refine H_r (r_mul rfl rfl (by first | exact wr_i64 (by omega) | rfl)) ?_
                    refine H_r (r_add rfl rfl (by first | exact wr_i64 (by omega) | rfl)) ?_
                    refine H_r (r_ms rfl) ?_
                    refine H_r (r_indexs Tryz.underlying9 rfl rfl (by omega) (by omega) (by conv => lhs; (try simp only [Nat.mul_one, Nat.zero_add, Int.toNat_natCast, Int.toNat_zero, Int.reduceToNat, Nat.reduceMul, Nat.reduceAdd]))) ?_
                    refine H_r (r_remn rfl rfl (by omega) (by omega)) ?_
                    refine H_r (r_conv Tryz.underlying5 Tryz.underlying3 rfl (by first | exact wr_i64 (by omega) | rfl)) ?_
                    refine H_r (r_add rfl rfl (by first | exact wr_i64 (by omega) | rfl)) ?_
                    refine H_r (r_ai rfl) ?_
                    refine H_nil ?_
                    refine W_seq ?_
                    refine W_region ?_
                    refine L_r (r_mi rfl) ?_
                    refine L_r (r_geq rfl rfl) ?_
                    refine L_r (r_mb rfl) ?_
                    refine L_case (d := 103) rfl (fun h103 => ?_) (fun h103 => ?_)
                    · refine L_g (r_mi rfl) ?_
                      refine L_g (r_leq rfl rfl) ?_
                      refine L_r (r_pt rfl rfl) ?_
                      refine L_nil ?_
                      refine W_if rfl (fun h106 => ?_) (fun h106 => ?_)
                      · refine W_seq ?_
                        refine W_region ?_
                        refine L_r (r_ai rfl) ?_
                        refine L_nil ?_
                        refine W_ret ?_
                        refine ret1 (v := .int _ _) rfl rfl ?_
                        refine ⟨congrArg (fun x : Nat => Value.int .i64 (x : Int)) (?_ : _ = charN _ _ _ _ _), Ch.au⟩
                        unfold charN
                        repeat' split
                        all_goals omega
                      · refine W_skip ?_
                        refine W_seq ?_
                        refine W_region ?_
                        refine L_r (r_ai rfl) ?_
                        refine L_nil ?_
                        refine W_ret ?_
                        refine ret1 (v := .int _ _) rfl rfl ?_
                        refine ⟨congrArg (fun x : Nat => Value.int .i64 (x : Int)) (?_ : _ = charN _ _ _ _ _), Ch.au⟩
                        unfold charN
                        repeat' split
                        all_goals omega
                    · refine L_ps ?_
                      refine L_ps ?_
                      refine L_r (r_pf rfl rfl) ?_
                      refine L_nil ?_
                      refine W_false rfl ?_
                      refine W_skip ?_
                      refine W_seq ?_
                      refine W_region ?_
                      refine L_r (r_ai rfl) ?_
                      refine L_nil ?_
                      refine W_ret ?_
                      refine ret1 (v := .int _ _) rfl rfl ?_
                      refine ⟨congrArg (fun x : Nat => Value.int .i64 (x : Int)) (?_ : _ = charN _ _ _ _ _), Ch.au⟩
                      unfold charN
                      repeat' split
                      all_goals omega
                  · try (replace h62 := of_decide_eq_false h62)
                    refine W_skip ?_
                    refine W_seq ?_
                    refine W_region ?_
                    refine L_r (r_ai rfl) ?_
                    refine L_nil ?_
                    refine W_ret ?_
                    refine ret1 (v := .int _ _) rfl rfl ?_
                    refine ⟨congrArg (fun x : Nat => Value.int .i64 (x : Int)) (?_ : _ = charN _ _ _ _ _), Ch.au⟩
                    unfold charN
                    repeat' split
                    all_goals omega
                · try (replace h77 := of_decide_eq_false h77)
                  refine L_ps ?_
                  refine L_ps ?_
                  refine L_r (r_pf rfl rfl) ?_
                  refine L_r (r_ab rfl) ?_
                  refine L_nil ?_
                  refine W_false rfl ?_
                  refine W_skip ?_
                  refine W_seq ?_
                  refine W_region ?_
                  refine L_r (r_ai rfl) ?_
                  refine L_nil ?_
                  refine W_ret ?_
                  refine ret1 (v := .int _ _) rfl rfl ?_
                  refine ⟨congrArg (fun x : Nat => Value.int .i64 (x : Int)) (?_ : _ = charN _ _ _ _ _), Ch.au⟩
                  unfold charN
                  repeat' split
                  all_goals omega
              · try (replace h73 := of_decide_eq_false h73)
                refine L_ps ?_
                refine L_ps ?_
                refine L_r (r_pf rfl rfl) ?_
                refine L_r (r_mb rfl) ?_
                refine L_ps ?_
                refine L_ps ?_
                refine L_r (r_pf rfl rfl) ?_
                refine L_r (r_ab rfl) ?_
                refine L_nil ?_
                refine W_false rfl ?_
                refine W_skip ?_
                refine W_seq ?_
                refine W_region ?_
                refine L_r (r_ai rfl) ?_
                refine L_nil ?_
                refine W_ret ?_
                refine ret1 (v := .int _ _) rfl rfl ?_
                refine ⟨congrArg (fun x : Nat => Value.int .i64 (x : Int)) (?_ : _ = charN _ _ _ _ _), Ch.au⟩
                unfold charN
                repeat' split
                all_goals omega
            · refine L_ps ?_
              refine L_ps ?_
              refine L_r (r_pf rfl rfl) ?_
              refine L_r (r_mb rfl) ?_
              refine L_ps ?_
              refine L_ps ?_
              refine L_r (r_pf rfl rfl) ?_
              refine L_r (r_mb rfl) ?_
              refine L_ps ?_
              refine L_ps ?_
              refine L_r (r_pf rfl rfl) ?_
              refine L_r (r_ab rfl) ?_
              refine L_nil ?_
              refine W_false rfl ?_
              refine W_skip ?_
              refine W_seq ?_
              refine W_region ?_
              refine L_r (r_ai rfl) ?_
              refine L_nil ?_
              refine W_ret ?_
              refine ret1 (v := .int _ _) rfl rfl ?_
              refine ⟨congrArg (fun x : Nat => Value.int .i64 (x : Int)) (?_ : _ = charN _ _ _ _ _), Ch.au⟩
              unfold charN
              repeat' split
              all_goals omega
          · refine L_ps ?_
            refine L_ps ?_
            refine L_r (r_pf rfl rfl) ?_
            refine L_r (r_mb rfl) ?_
            refine L_ps ?_
            refine L_ps ?_
            refine L_r (r_pf rfl rfl) ?_
            refine L_r (r_mb rfl) ?_
            refine L_ps ?_
            refine L_ps ?_
            refine L_r (r_pf rfl rfl) ?_
            refine L_r (r_mb rfl) ?_
            refine L_ps ?_
            refine L_ps ?_
            refine L_r (r_pf rfl rfl) ?_
            refine L_r (r_ab rfl) ?_
            refine L_nil ?_
            refine W_false rfl ?_
            refine W_skip ?_
            refine W_seq ?_
            refine W_region ?_
            refine L_r (r_ai rfl) ?_
            refine L_nil ?_
            refine W_ret ?_
            refine ret1 (v := .int _ _) rfl rfl ?_
            refine ⟨congrArg (fun x : Nat => Value.int .i64 (x : Int)) (?_ : _ = charN _ _ _ _ _), Ch.au⟩
            unfold charN
            repeat' split
            all_goals omega
      · refine L_ps ?_
        refine L_ps ?_
        refine L_r (r_pf rfl rfl) ?_
        refine L_r (r_mb rfl) ?_
        refine L_ps ?_
        refine L_ps ?_
        refine L_r (r_pf rfl rfl) ?_
        refine L_r (r_mb rfl) ?_
        refine L_ps ?_
        refine L_ps ?_
        refine L_r (r_pf rfl rfl) ?_
        refine L_r (r_ab rfl) ?_
        refine L_nil ?_
        refine W_false rfl ?_
        refine W_seq ?_
        refine W_region ?_
        refine L_r (r_mi rfl) ?_
        refine L_r (r_geq rfl rfl) ?_
        refine L_r (r_mb rfl) ?_
        refine L_case (d := 65) rfl (fun h65 => ?_) (fun h65 => ?_)
        · refine L_g (r_mi rfl) ?_
          refine L_g (r_lss rfl rfl) ?_
          refine L_r (r_pt rfl rfl) ?_
          refine L_r (r_mb rfl) ?_
          refine L_case (d := 69) rfl (fun h69 => ?_) (fun h69 => ?_)
          · refine L_g (r_ms rfl) ?_
            refine L_call (.yes 6 true rfl rfl) rfl rfl (r_call Tryz.func87 rfl rfl rfl (by rfl)) (after_walk s 1 _) ?_
            rintro v71 w55 ⟨rfl, rfl⟩
            refine L_r (r_pt rfl rfl) ?_
            refine L_r (r_mb rfl) ?_
            refine L_caseb (d := 73) rfl (fun h73 => ?_) (fun h73 => ?_)
            · try (replace h73 := of_decide_eq_true h73)
              refine L_g (r_ms rfl) ?_
              refine L_call (.yes 10 true rfl rfl) rfl rfl (r_call Tryz.func87 rfl rfl rfl (by rfl)) (after_walk s 2 _) ?_
              rintro v75 w56 ⟨rfl, rfl⟩
              refine L_r (r_pt rfl rfl) ?_
              refine L_r (r_mb rfl) ?_
              refine L_caseb (d := 77) rfl (fun h77 => ?_) (fun h77 => ?_)
              · try (replace h77 := of_decide_eq_true h77)
                refine L_g (r_ms rfl) ?_
                refine L_call (.yes 14 true rfl rfl) rfl rfl (r_call Tryz.func87 rfl rfl rfl (by rfl)) (after_walk s 3 _) ?_
                rintro v79 w57 ⟨rfl, rfl⟩
                refine L_r (r_pt rfl rfl) ?_
                refine L_r (r_ab rfl) ?_
                refine L_nil ?_
                refine W_bool rfl (fun h62 => ?_) (fun h62 => ?_)
                · try (replace h62 := of_decide_eq_true h62)
                  refine W_seq ?_
                  refine W_still (by kernel_rfl) (by kernel_rfl) (fun w58 c58 hs58 => ?_)
                  refine H_r (r_mi rfl) ?_
                  refine H_r (r_remn rfl rfl (by omega) (by omega)) ?_
                  refine H_r (r_mul rfl rfl (by first | exact wr_i64 (by omega) | rfl)) ?_
                  refine H_r (r_ms rfl) ?_
                  refine H_r (r_indexs Tryz.underlying9 rfl rfl (by omega) (by omega) (by conv => lhs; (try simp only [Nat.mul_one, Nat.zero_add, Int.toNat_natCast, Int.toNat_zero, Int.reduceToNat, Nat.reduceMul, Nat.reduceAdd]))) ?_
                  refine H_r (r_remn rfl rfl (by omega) (by omega)) ?_
                  refine H_r (r_conv Tryz.underlying5 Tryz.underlying3 rfl (by first | exact wr_i64 (by omega) | rfl)) ?_
                  refine H_r (r_mul rfl rfl (by first | exact wr_i64 (by omega) | rfl)) ?_
                  refine H_r (r_add rfl rfl (by first | exact wr_i64 (by omega) | rfl)) ?_
                  refine H_r (r_ms rfl) ?_
                  refine H_r (r_indexs Tryz.underlying9 rfl rfl (by omega) (by omega) (by conv => lhs; (try simp only [Nat.mul_one, Nat.zero_add, Int.toNat_natCast, Int.toNat_zero, Int.reduceToNat, Nat.reduceMul, Nat.reduceAdd]))) ?_
                  refine H_r (r_remn rfl rfl (by omega) (by omega)) ?_
                  refine H_r (r_conv Tryz.underlying5 Tryz.underlying3 rfl (by first | exact wr_i64 (by omega) | rfl)) ?_
                  refine H_r (r_mul rfl rfl (by first | exact wr_i64 (by omega) | rfl)) ?_
                  refine H_r (r_add rfl rfl (by first | exact wr_i64 (by omega) | rfl)) ?_
                  refine H_r (r_ms rfl) ?_
                  refine H_r (r_indexs Tryz.underlying9 rfl rfl (by omega) (by omega) (by conv => lhs; (try simp only [Nat.mul_one, Nat.zero_add, Int.toNat_natCast, Int.toNat_zero, Int.reduceToNat, Nat.reduceMul, Nat.reduceAdd]))) ?_
                  refine H_r (r_remn rfl rfl (by omega) (by omega)) ?_
                  refine H_r (r_conv Tryz.underlying5 Tryz.underlying3 rfl (by first | exact wr_i64 (by omega) | rfl)) ?_
                  refine H_r (r_add rfl rfl (by first | exact wr_i64 (by omega) | rfl)) ?_
                  refine H_r (r_ai rfl) ?_
                  refine H_nil ?_
                  refine W_seq ?_
                  refine W_region ?_
                  refine L_r (r_mi rfl) ?_
                  refine L_r (r_geq rfl rfl) ?_
                  refine L_r (r_mb rfl) ?_
                  refine L_case (d := 103) rfl (fun h103 => ?_) (fun h103 => ?_)
                  · refine L_g (r_mi rfl) ?_
                    refine L_g (r_leq rfl rfl) ?_
                    refine L_r (r_pt rfl rfl) ?_
                    refine L_nil ?_
                    refine W_if rfl (fun h106 => ?_) (fun h106 => ?_)
                    · refine W_seq ?_
                      refine W_region ?_
                      refine L_r (r_ai rfl) ?_
                      refine L_nil ?_
                      refine W_ret ?_
                      refine ret1 (v := .int _ _) rfl rfl ?_
                      refine ⟨congrArg (fun x : Nat => Value.int .i64 (x : Int)) (?_ : _ = charN _ _ _ _ _), Ch.au⟩
                      unfold charN
                      repeat' split
                      all_goals omega
                    · refine W_skip ?_
                      refine W_seq ?_
                      refine W_region ?_
                      refine L_r (r_ai rfl) ?_
                      refine L_nil ?_
                      refine W_ret ?_
                      refine ret1 (v := .int _ _) rfl rfl ?_
                      refine ⟨congrArg (fun x : Nat => Value.int .i64 (x : Int)) (?_ : _ = charN _ _ _ _ _), Ch.au⟩
                      unfold charN
                      repeat' split
                      all_goals omega
                  · refine L_ps ?_
                    refine L_ps ?_
                    refine L_r (r_pf rfl rfl) ?_
                    refine L_nil ?_
                    refine W_false rfl ?_
                    refine W_skip ?_
                    refine W_seq ?_
                    refine W_region ?_
                    refine L_r (r_ai rfl) ?_
                    refine L_nil ?_
                    refine W_ret ?_
                    refine ret1 (v := .int _ _) rfl rfl ?_
                    refine ⟨congrArg (fun x : Nat => Value.int .i64 (x : Int)) (?_ : _ = charN _ _ _ _ _), Ch.au⟩
                    unfold charN
                    repeat' split
                    all_goals omega
                · try (replace h62 := of_decide_eq_false h62)
                  refine W_skip ?_
                  refine W_seq ?_
                  refine W_region ?_
                  refine L_r (r_ai rfl) ?_
                  refine L_nil ?_
                  refine W_ret ?_
                  refine ret1 (v := .int _ _) rfl rfl ?_
                  refine ⟨congrArg (fun x : Nat => Value.int .i64 (x : Int)) (?_ : _ = charN _ _ _ _ _), Ch.au⟩
                  unfold charN
                  repeat' split
                  all_goals omega
              · try (replace h77 := of_decide_eq_false h77)
                refine L_ps ?_
                refine L_ps ?_
                refine L_r (r_pf rfl rfl) ?_
                refine L_r (r_ab rfl) ?_
                refine L_nil ?_
                refine W_false rfl ?_
                refine W_skip ?_
                refine W_seq ?_
                refine W_region ?_
                refine L_r (r_ai rfl) ?_
                refine L_nil ?_
                refine W_ret ?_
                refine ret1 (v := .int _ _) rfl rfl ?_
                refine ⟨congrArg (fun x : Nat => Value.int .i64 (x : Int)) (?_ : _ = charN _ _ _ _ _), Ch.au⟩
                unfold charN
                repeat' split
                all_goals omega
            · try (replace h73 := of_decide_eq_false h73)
              refine L_ps ?_
              refine L_ps ?_
              refine L_r (r_pf rfl rfl) ?_
              refine L_r (r_mb rfl) ?_
              refine L_ps ?_
              refine L_ps ?_
              refine L_r (r_pf rfl rfl) ?_
              refine L_r (r_ab rfl) ?_
              refine L_nil ?_
              refine W_false rfl ?_
              refine W_skip ?_
              refine W_seq ?_
              refine W_region ?_
              refine L_r (r_ai rfl) ?_
              refine L_nil ?_
              refine W_ret ?_
              refine ret1 (v := .int _ _) rfl rfl ?_
              refine ⟨congrArg (fun x : Nat => Value.int .i64 (x : Int)) (?_ : _ = charN _ _ _ _ _), Ch.au⟩
              unfold charN
              repeat' split
              all_goals omega
          · refine L_ps ?_
            refine L_ps ?_
            refine L_r (r_pf rfl rfl) ?_
            refine L_r (r_mb rfl) ?_
            refine L_ps ?_
            refine L_ps ?_
            refine L_r (r_pf rfl rfl) ?_
            refine L_r (r_mb rfl) ?_
            refine L_ps ?_
            refine L_ps ?_
            refine L_r (r_pf rfl rfl) ?_
            refine L_r (r_ab rfl) ?_
            refine L_nil ?_
            refine W_false rfl ?_
            refine W_skip ?_
            refine W_seq ?_
            refine W_region ?_
            refine L_r (r_ai rfl) ?_
            refine L_nil ?_
            refine W_ret ?_
            refine ret1 (v := .int _ _) rfl rfl ?_
            refine ⟨congrArg (fun x : Nat => Value.int .i64 (x : Int)) (?_ : _ = charN _ _ _ _ _), Ch.au⟩
            unfold charN
            repeat' split
            all_goals omega
        · refine L_ps ?_
          refine L_ps ?_
          refine L_r (r_pf rfl rfl) ?_
          refine L_r (r_mb rfl) ?_
          refine L_ps ?_
          refine L_ps ?_
          refine L_r (r_pf rfl rfl) ?_
          refine L_r (r_mb rfl) ?_
          refine L_ps ?_
          refine L_ps ?_
          refine L_r (r_pf rfl rfl) ?_
          refine L_r (r_mb rfl) ?_
          refine L_ps ?_
          refine L_ps ?_
          refine L_r (r_pf rfl rfl) ?_
          refine L_r (r_ab rfl) ?_
          refine L_nil ?_
          refine W_false rfl ?_
          refine W_skip ?_
          refine W_seq ?_
          refine W_region ?_
          refine L_r (r_ai rfl) ?_
          refine L_nil ?_
          refine W_ret ?_
          refine ret1 (v := .int _ _) rfl rfl ?_
          refine ⟨congrArg (fun x : Nat => Value.int .i64 (x : Int)) (?_ : _ = charN _ _ _ _ _), Ch.au⟩
          unfold charN
          repeat' split
          all_goals omega
theorem char_bs (s : ByteArray) : charN s.size (bat s 0).toNat (bat s 1).toNat (bat s 2).toNat (bat s 3).toNat = charL (bs s) := by unfold charL bat; rw [bs_length]
theorem bs_extract_l (s : ByteArray) (i : Nat) : bs (s.extract i s.size) = (bs s).drop i := by
  simp only [bs, ByteArray.data_extract, Array.toList_extract, List.extract_eq_take_drop, ByteArray.size]
  rw [List.take_of_length_le]
  simp
theorem bs_extract_h (s : ByteArray) (i : Nat) : bs (s.extract 0 i) = (bs s).take i := by
  simp [bs]
theorem ba_pos {s : ByteArray} (h : s ≠ { data := #[] }) : 0 < s.size := by
  rcases Nat.eq_zero_or_pos s.size with h0 | h0
  · exact absurd (bs_inj.1 (List.eq_nil_of_length_eq_zero (by rw [bs_length]; exact h0) : bs s = bs { data := #[] })) h
  · exact h0
theorem bs_ne {s : ByteArray} (h : s ≠ { data := #[] }) : bs s ≠ [] := fun e => by have := ba_pos h; rw [← bs_length, e] at this; exact absurd this (by decide)
theorem ba_nil {s : ByteArray} (h : ¬ s ≠ { data := #[] }) : bs s = [] := by rw [Classical.not_not.1 h]; rfl
theorem whole_walk (s : ByteArray) (w0 : World) : Does Tryz.prog 48 #[.string s] w0 (fun r w' => r = .bool (Lib.validD (bs s)) ∧ Nw w0 w') := by
  refine fn_of (n := 13) (args := [.string s]) Tryz.func48 rfl rfl rfl ?_
  refine W_seq ?_
  refine W_region ?_
  refine L_r (r_ab rfl) ?_
  refine L_nil ?_
  refine W_seq ?_
  refine W_block ?_
  refine W_loopF [] (fun mz_ f W => ∃ (u : ByteArray), f 0 = .string u ∧ (Lib.validD (bs u) = Lib.validD (bs s) ∧ Nw w0 W) ∧ mz_ = u.size) ?_ ?_
  · refine ⟨_, s, rfl, ?_, rfl⟩
    exact ⟨rfl, Ch.au⟩
  rintro m0 g0 w1 ⟨u, hf0, hR0, rfl⟩
  refine W_as 0 hf0 rfl ?_
  clear hf0
  obtain ⟨hv, hnw⟩ := hR0
  have hz := hnw.size
  refine W_seq ?_
  refine W_seq ?_
  refine W_region ?_
  refine L_r (r_ms rfl) ?_
  refine L_r (r_neqs rfl rfl) ?_
  refine L_nil ?_
  refine W_if rfl (fun h5 => ?_) (fun h5 => ?_)
  · have hu0 := ba_pos h5
    have hcl := charL_le (bs u) (bs_ne h5)
    rw [bs_length] at hcl
    have hxs := congrArg List.length (bs_extract_l u (charL (bs u)))
    rw [bs_length, List.length_drop, bs_length] at hxs
    refine W_skip ?_
    refine W_block ?_
    refine W_seq ?_
    refine W_region ?_
    refine L_r (r_ms rfl) ?_
    refine L_call (.plain rfl) rfl rfl (r_call Tryz.func70 rfl rfl rfl (by rfl)) (char_walk u _ hu0) ?_
    rintro v7 w2 ⟨rfl, c2⟩
    have hz2 := c2.size
    rw [char_bs]
    refine L_r (r_ai rfl) ?_
    refine L_nil ?_
    refine W_seq ?_
    refine W_seq ?_
    refine W_region ?_
    refine L_r (r_mi rfl) ?_
    refine L_r (r_eql rfl rfl) ?_
    refine L_nil ?_
    refine W_if rfl (fun h9 => ?_) (fun h9 => ?_)
    · refine W_seq ?_
      refine W_region ?_
      refine L_r (r_ab rfl) ?_
      refine L_nil ?_
      refine W_ret ?_
      refine ret1 (v := .bool _) rfl rfl ?_
      first
      | exact ⟨congrArg Value.bool (by rw [← hv, valid_char (bs u) (bs_ne h5), if_pos (by omega)]), Ch.au⟩
      | exact ⟨congrArg Value.bool (by rw [← hv, ba_nil h5]; rfl), Ch.au⟩
    · refine W_skip ?_
      refine W_region ?_
      refine L_r (r_ms rfl) ?_
      refine L_r (r_mi rfl) ?_
      refine L_r (r_slices_l Tryz.underlying9 rfl rfl (by omega) (by omega)) ?_
      refine L_r (r_as rfl) ?_
      refine L_nil ?_
      refine ⟨trivial, _, ?_, u.extract (charL (bs u)) u.size, rfl, ?_, rfl⟩
      · omega
      exact ⟨by rw [bs_extract_l, ← hv, valid_char (bs u) (bs_ne h5), if_neg (by omega)], Ch.au⟩
  · refine W_exit ?_
    repeat (first | refine blk_hit ?_ | refine blk_miss rfl ?_)
    refine W_seq ?_
    refine W_region ?_
    refine L_r (r_ab rfl) ?_
    refine L_nil ?_
    refine W_ret ?_
    refine ret1 (v := .bool _) rfl rfl ?_
    first
    | exact ⟨congrArg Value.bool (by rw [← hv, valid_char (bs u) (bs_ne h5), if_pos (by omega)]), Ch.au⟩
    | exact ⟨congrArg Value.bool (by rw [← hv, ba_nil h5]; rfl), Ch.au⟩
end Go.Proofs.YtioonbfinnigpaaGreatDoor

