/- The document's server, walked: names, which messages may be, where a call is, how many are kept. -/
import Derived.Test.YthpclaoniljfbaaMsgEq
namespace Go.Proofs.Ythpclaoniljfbaa
open Go Go.RowKit
set_option linter.unusedVariables false
set_option linter.unusedSimpArgs false
def lettC (c : Int) : Prop := greatC c ∨ smallC c
instance (c : Int) : Decidable (lettC c) := inferInstanceAs (Decidable (_ ∨ _))
set_option maxRecDepth 100000 in
set_option maxHeartbeats 4000000 in
theorem rname_walk (s : ByteArray) (w0 : World) (hs : s.size ≤ 1000000000) : Does Try.prog 33 #[.string s] w0 (fun r w' => r = .bool (decide (nameP s)) ∧ Nw w0 w') := by
  refine fn_of (n := 59) (args := [.string s]) Try.func33 rfl rfl rfl ?_
  refine W_seq ?_
  refine W_region ?_
  refine L_run (.plain rfl) rfl rfl (r_assign (v := .bool _) rfl) ?_
  refine L_nil ?_
  refine W_seq ?_
  refine W_seq ?_
  refine W_region ?_
  refine L_run (.plain rfl) rfl rfl (r_assign (v := .int _ _) rfl) ?_
  refine L_nil ?_
  refine W_block ?_
  refine W_loopF [0] (fun mz_ f W => ∃ (i : Nat), f 3 = .int .i64 i ∧ (i ≤ s.size ∧ (∀ j, j < i → nameC (bat s j).toNat ∧ (j = 0 → ¬ digitC (bat s j).toNat)) ∧ Nw w0 W) ∧ mz_ = s.size - i) ?_ ?_
  · refine ⟨_, 0, rfl, ?_, rfl⟩
    exact ⟨by omega, fun j hj => by omega, by (repeat (first | exact Ch.refl _ | assumption | (refine Ch.fresh ?_ (by assumption) (by intro i hi he; first | exact he | exact (not_no he).elim | (exfalso; have he2 : i = _ := he; omega)))))⟩
  rintro m0 g0 w1 ⟨i, hf3, hR0, rfl⟩
  refine W_as 3 hf3 rfl ?_
  clear hf3
  obtain ⟨hi, hok, hnw⟩ := hR0
  have hz := hnw.size
  refine W_seq ?_
  refine W_seq ?_
  refine W_region ?_
  refine L_run (.plain rfl) rfl rfl (r_move (v := .int _ _) rfl) ?_
  refine L_run (.plain rfl) rfl rfl (r_move (v := .string _) rfl) ?_
  refine L_run (.plain rfl) rfl rfl (r_lens Try.underlying9 rfl) ?_
  refine L_run (.plain rfl) rfl rfl (r_lss rfl rfl) ?_
  refine L_nil ?_
  refine W_if rfl (fun h8 => ?_) (fun h8 => ?_)
  · have hin : i < s.size := by omega
    refine W_skip ?_
    refine W_seq ?_
    refine W_block ?_
    refine W_cutF [0, 3] (fun f W => ∃ (lt : Bool), f 4 = .bool lt ∧ ((lt = true ↔ lettC (bat s i).toNat) ∧ W = w1)) ?_ ?_
    · refine W_region ?_
      refine L_run (.plain rfl) rfl rfl (r_move (v := .string _) rfl) ?_
      refine L_run (.plain rfl) rfl rfl (r_move (v := .int _ _) rfl) ?_
      refine L_run (.plain rfl) rfl rfl (r_indexs Try.underlying9 rfl rfl (by omega) (by omega) (by conv => lhs; (try simp only [Nat.mul_one, Nat.zero_add, Int.toNat_natCast, Int.toNat_zero, Int.reduceToNat, Nat.reduceMul, Nat.reduceAdd]))) ?_
      refine L_run (.plain rfl) rfl rfl (r_geq rfl rfl) ?_
      refine L_run (.plain rfl) rfl rfl (r_move (v := .bool _) rfl) ?_
      refine L_case (d := 15) rfl (fun h15 => ?_) (fun h15 => ?_)
      · refine L_run (.yes 4 true rfl rfl) rfl rfl (r_move (v := .string _) rfl) ?_
        refine L_run (.yes 4 true rfl rfl) rfl rfl (r_move (v := .int _ _) rfl) ?_
        refine L_run (.yes 4 true rfl rfl) rfl rfl (r_indexs Try.underlying9 rfl rfl (by omega) (by omega) (by conv => lhs; (try simp only [Nat.mul_one, Nat.zero_add, Int.toNat_natCast, Int.toNat_zero, Int.reduceToNat, Nat.reduceMul, Nat.reduceAdd]))) ?_
        refine L_run (.yes 4 true rfl rfl) rfl rfl (r_leq rfl rfl) ?_
        refine L_run (.plain rfl) rfl rfl (r_pick_t (v := .bool _) rfl rfl) ?_
        refine L_run (.plain rfl) rfl rfl (r_move (v := .bool _) rfl) ?_
        refine L_case (d := 21) rfl (fun h21 => ?_) (fun h21 => ?_)
        · refine L_pass rfl rfl rfl rfl rfl ?_
          refine L_pass rfl rfl rfl rfl rfl ?_
          refine L_pass rfl rfl rfl rfl rfl ?_
          refine L_pass rfl rfl rfl rfl rfl ?_
          refine L_pass rfl rfl rfl rfl rfl ?_
          refine L_passu rfl rfl rfl rfl ?_
          refine L_passu rfl rfl rfl rfl ?_
          refine L_passu rfl rfl rfl rfl ?_
          refine L_passu rfl rfl rfl rfl ?_
          refine L_pass rfl rfl rfl rfl rfl ?_
          refine L_run (.plain rfl) rfl rfl (r_pick_t (v := .bool _) rfl rfl) ?_
          refine L_run (.plain rfl) rfl rfl (r_assign (v := .bool _) rfl) ?_
          refine L_nil ?_
          refine ⟨⟨rfl, rfl, trivial⟩, _, rfl, ?_⟩
          refine ⟨?_, rfl⟩
          unfold lettC greatC smallC
          first
            | (simp only [decide_eq_true_eq]; omega)
            | (simp; omega)
        · refine L_run (.yes 10 false rfl rfl) rfl rfl (r_move (v := .string _) rfl) ?_
          refine L_run (.yes 10 false rfl rfl) rfl rfl (r_move (v := .int _ _) rfl) ?_
          refine L_run (.yes 10 false rfl rfl) rfl rfl (r_indexs Try.underlying9 rfl rfl (by omega) (by omega) (by conv => lhs; (try simp only [Nat.mul_one, Nat.zero_add, Int.toNat_natCast, Int.toNat_zero, Int.reduceToNat, Nat.reduceMul, Nat.reduceAdd]))) ?_
          refine L_run (.yes 10 false rfl rfl) rfl rfl (r_geq rfl rfl) ?_
          refine L_run (.yes 10 false rfl rfl) rfl rfl (r_move (v := .bool _) rfl) ?_
          refine L_case (d := 26) rfl (fun h26 => ?_) (fun h26 => ?_)
          · refine L_run (.yes 15 true rfl rfl) rfl rfl (r_move (v := .string _) rfl) ?_
            refine L_run (.yes 15 true rfl rfl) rfl rfl (r_move (v := .int _ _) rfl) ?_
            refine L_run (.yes 15 true rfl rfl) rfl rfl (r_indexs Try.underlying9 rfl rfl (by omega) (by omega) (by conv => lhs; (try simp only [Nat.mul_one, Nat.zero_add, Int.toNat_natCast, Int.toNat_zero, Int.reduceToNat, Nat.reduceMul, Nat.reduceAdd]))) ?_
            refine L_run (.yes 15 true rfl rfl) rfl rfl (r_leq rfl rfl) ?_
            refine L_run (.yes 10 false rfl rfl) rfl rfl (r_pick_t (v := .bool _) rfl rfl) ?_
            refine L_run (.plain rfl) rfl rfl (r_pick_f (v := .bool _) rfl rfl) ?_
            refine L_run (.plain rfl) rfl rfl (r_assign (v := .bool _) rfl) ?_
            refine L_nil ?_
            refine ⟨⟨rfl, rfl, trivial⟩, _, rfl, ?_⟩
            refine ⟨?_, rfl⟩
            unfold lettC greatC smallC
            first
              | (simp only [decide_eq_true_eq]; omega)
              | (simp; omega)
          · refine L_pass rfl rfl rfl rfl rfl ?_
            refine L_pass rfl rfl rfl rfl rfl ?_
            refine L_pass rfl rfl rfl rfl rfl ?_
            refine L_pass rfl rfl rfl rfl rfl ?_
            refine L_run (.yes 10 false rfl rfl) rfl rfl (r_pick_f (v := .bool _) rfl rfl) ?_
            refine L_run (.plain rfl) rfl rfl (r_pick_f (v := .bool _) rfl rfl) ?_
            refine L_run (.plain rfl) rfl rfl (r_assign (v := .bool _) rfl) ?_
            refine L_nil ?_
            refine ⟨⟨rfl, rfl, trivial⟩, _, rfl, ?_⟩
            refine ⟨?_, rfl⟩
            unfold lettC greatC smallC
            first
              | (simp only [decide_eq_true_eq]; omega)
              | (simp; omega)
      · refine L_pass rfl rfl rfl rfl rfl ?_
        refine L_pass rfl rfl rfl rfl rfl ?_
        refine L_pass rfl rfl rfl rfl rfl ?_
        refine L_pass rfl rfl rfl rfl rfl ?_
        refine L_run (.plain rfl) rfl rfl (r_pick_f (v := .bool _) rfl rfl) ?_
        refine L_run (.plain rfl) rfl rfl (r_move (v := .bool _) rfl) ?_
        refine L_run (.yes 10 false rfl rfl) rfl rfl (r_move (v := .string _) rfl) ?_
        refine L_run (.yes 10 false rfl rfl) rfl rfl (r_move (v := .int _ _) rfl) ?_
        refine L_run (.yes 10 false rfl rfl) rfl rfl (r_indexs Try.underlying9 rfl rfl (by omega) (by omega) (by conv => lhs; (try simp only [Nat.mul_one, Nat.zero_add, Int.toNat_natCast, Int.toNat_zero, Int.reduceToNat, Nat.reduceMul, Nat.reduceAdd]))) ?_
        refine L_run (.yes 10 false rfl rfl) rfl rfl (r_geq rfl rfl) ?_
        refine L_run (.yes 10 false rfl rfl) rfl rfl (r_move (v := .bool _) rfl) ?_
        refine L_case (d := 26) rfl (fun h26 => ?_) (fun h26 => ?_)
        · refine L_run (.yes 15 true rfl rfl) rfl rfl (r_move (v := .string _) rfl) ?_
          refine L_run (.yes 15 true rfl rfl) rfl rfl (r_move (v := .int _ _) rfl) ?_
          refine L_run (.yes 15 true rfl rfl) rfl rfl (r_indexs Try.underlying9 rfl rfl (by omega) (by omega) (by conv => lhs; (try simp only [Nat.mul_one, Nat.zero_add, Int.toNat_natCast, Int.toNat_zero, Int.reduceToNat, Nat.reduceMul, Nat.reduceAdd]))) ?_
          refine L_run (.yes 15 true rfl rfl) rfl rfl (r_leq rfl rfl) ?_
          refine L_run (.yes 10 false rfl rfl) rfl rfl (r_pick_t (v := .bool _) rfl rfl) ?_
          refine L_run (.plain rfl) rfl rfl (r_pick_f (v := .bool _) rfl rfl) ?_
          refine L_run (.plain rfl) rfl rfl (r_assign (v := .bool _) rfl) ?_
          refine L_nil ?_
          refine ⟨⟨rfl, rfl, trivial⟩, _, rfl, ?_⟩
          refine ⟨?_, rfl⟩
          unfold lettC greatC smallC
          first
            | (simp only [decide_eq_true_eq]; omega)
            | (simp; omega)
        · refine L_pass rfl rfl rfl rfl rfl ?_
          refine L_pass rfl rfl rfl rfl rfl ?_
          refine L_pass rfl rfl rfl rfl rfl ?_
          refine L_pass rfl rfl rfl rfl rfl ?_
          refine L_run (.yes 10 false rfl rfl) rfl rfl (r_pick_f (v := .bool _) rfl rfl) ?_
          refine L_run (.plain rfl) rfl rfl (r_pick_f (v := .bool _) rfl rfl) ?_
          refine L_run (.plain rfl) rfl rfl (r_assign (v := .bool _) rfl) ?_
          refine L_nil ?_
          refine ⟨⟨rfl, rfl, trivial⟩, _, rfl, ?_⟩
          refine ⟨?_, rfl⟩
          unfold lettC greatC smallC
          first
            | (simp only [decide_eq_true_eq]; omega)
            | (simp; omega)
    rintro gcr4 w2 ⟨lt, hf4, hCr4⟩
    refine W_as 4 hf4 rfl ?_
    clear hf4
    obtain ⟨hlt, rfl⟩ := hCr4
    refine W_seq ?_
    refine W_region ?_
    refine L_run (.plain rfl) rfl rfl (r_move (v := .bool _) rfl) ?_
    refine L_run (.plain rfl) rfl rfl (r_not rfl) ?_
    refine L_run (.plain rfl) rfl rfl (r_move (v := .bool _) rfl) ?_
    refine L_caseb (d := 35) rfl (fun h35 => ?_) (fun h35 => ?_)
    · refine L_run (.yes 2 true rfl rfl) rfl rfl (r_move (v := .int _ _) rfl) ?_
      refine L_run (.yes 2 true rfl rfl) rfl rfl (r_eql rfl rfl) ?_
      refine L_run (.yes 2 true rfl rfl) rfl rfl (r_move (v := .bool _) rfl) ?_
      refine L_case (d := 38) rfl (fun h38 => ?_) (fun h38 => ?_)
      · refine L_pass rfl rfl rfl rfl rfl ?_
        refine L_pass rfl rfl rfl rfl rfl ?_
        refine L_pass rfl rfl rfl rfl rfl ?_
        refine L_pass rfl rfl rfl rfl rfl ?_
        refine L_run (.yes 2 true rfl rfl) rfl rfl (r_pick_t (v := .bool _) rfl rfl) ?_
        refine L_run (.yes 2 true rfl rfl) rfl rfl (r_move (v := .bool _) rfl) ?_
        refine L_pass rfl rfl rfl rfl rfl ?_
        refine L_pass rfl rfl rfl rfl rfl ?_
        refine L_pass rfl rfl rfl rfl rfl ?_
        refine L_pass rfl rfl rfl rfl rfl ?_
        refine L_run (.yes 2 true rfl rfl) rfl rfl (r_pick_t (v := .bool _) rfl rfl) ?_
        refine L_run (.plain rfl) rfl rfl (r_pick_t (v := .bool _) rfl rfl) ?_
        refine L_nil ?_
        refine W_true rfl ?_
        refine W_seq ?_
        refine W_region ?_
        refine L_run (.plain rfl) rfl rfl (r_assign (v := .bool _) rfl) ?_
        refine L_nil ?_
        refine W_ret ?_
        refine ret1 (v := .bool _) rfl rfl ?_
        refine ⟨?_, by (repeat (first | exact Ch.refl _ | assumption | (refine Ch.fresh ?_ (by assumption) (by intro i hi he; first | exact he | exact (not_no he).elim | (exfalso; have he2 : i = _ := he; omega)))))⟩
        first
          | (apply bool_f; rintro ⟨k1, k2, k3, k4⟩
             first
               | omega
               | (have h1 := k4 i hin
                  have h2 : i = 0 → ¬ digitC (bat s i).toNat := fun e => by rw [e]; exact k3
                  unfold lettC at hlt
                  unfold nameC greatC smallC digitC at *
                  cases lt <;> simp at hlt <;> first | omega | simp_all))
          | (apply bool_dec
             unfold nameP
             constructor
             · intro hh
               exact ⟨by omega, by omega, (hok 0 (by omega)).2 rfl, fun j hj => (hok j (by omega)).1⟩
             · rintro ⟨k1, k2, k3, k4⟩
               omega)
      · refine L_run (.yes 5 false rfl rfl) rfl rfl (r_move (v := .string _) rfl) ?_
        refine L_run (.yes 5 false rfl rfl) rfl rfl (r_move (v := .int _ _) rfl) ?_
        refine L_run (.yes 5 false rfl rfl) rfl rfl (r_indexs Try.underlying9 rfl rfl (by omega) (by omega) (by conv => lhs; (try simp only [Nat.mul_one, Nat.zero_add, Int.toNat_natCast, Int.toNat_zero, Int.reduceToNat, Nat.reduceMul, Nat.reduceAdd]))) ?_
        refine L_run (.yes 5 false rfl rfl) rfl rfl (r_lss rfl rfl) ?_
        refine L_run (.yes 2 true rfl rfl) rfl rfl (r_pick_f (v := .bool _) rfl rfl) ?_
        refine L_run (.yes 2 true rfl rfl) rfl rfl (r_move (v := .bool _) rfl) ?_
        refine L_case (d := 44) rfl (fun h44 => ?_) (fun h44 => ?_)
        · refine L_pass rfl rfl rfl rfl rfl ?_
          refine L_pass rfl rfl rfl rfl rfl ?_
          refine L_pass rfl rfl rfl rfl rfl ?_
          refine L_pass rfl rfl rfl rfl rfl ?_
          refine L_run (.yes 2 true rfl rfl) rfl rfl (r_pick_t (v := .bool _) rfl rfl) ?_
          refine L_run (.plain rfl) rfl rfl (r_pick_t (v := .bool _) rfl rfl) ?_
          refine L_nil ?_
          refine W_true rfl ?_
          refine W_seq ?_
          refine W_region ?_
          refine L_run (.plain rfl) rfl rfl (r_assign (v := .bool _) rfl) ?_
          refine L_nil ?_
          refine W_ret ?_
          refine ret1 (v := .bool _) rfl rfl ?_
          refine ⟨?_, by (repeat (first | exact Ch.refl _ | assumption | (refine Ch.fresh ?_ (by assumption) (by intro i hi he; first | exact he | exact (not_no he).elim | (exfalso; have he2 : i = _ := he; omega)))))⟩
          first
            | (apply bool_f; rintro ⟨k1, k2, k3, k4⟩
               first
                 | omega
                 | (have h1 := k4 i hin
                    have h2 : i = 0 → ¬ digitC (bat s i).toNat := fun e => by rw [e]; exact k3
                    unfold lettC at hlt
                    unfold nameC greatC smallC digitC at *
                    cases lt <;> simp at hlt <;> first | omega | simp_all))
            | (apply bool_dec
               unfold nameP
               constructor
               · intro hh
                 exact ⟨by omega, by omega, (hok 0 (by omega)).2 rfl, fun j hj => (hok j (by omega)).1⟩
               · rintro ⟨k1, k2, k3, k4⟩
                 omega)
        · refine L_run (.yes 11 false rfl rfl) rfl rfl (r_move (v := .string _) rfl) ?_
          refine L_run (.yes 11 false rfl rfl) rfl rfl (r_move (v := .int _ _) rfl) ?_
          refine L_run (.yes 11 false rfl rfl) rfl rfl (r_indexs Try.underlying9 rfl rfl (by omega) (by omega) (by conv => lhs; (try simp only [Nat.mul_one, Nat.zero_add, Int.toNat_natCast, Int.toNat_zero, Int.reduceToNat, Nat.reduceMul, Nat.reduceAdd]))) ?_
          refine L_run (.yes 11 false rfl rfl) rfl rfl (r_gtr rfl rfl) ?_
          refine L_run (.yes 2 true rfl rfl) rfl rfl (r_pick_f (v := .bool _) rfl rfl) ?_
          refine L_run (.plain rfl) rfl rfl (r_pick_t (v := .bool _) rfl rfl) ?_
          refine L_nil ?_
          refine W_if rfl (fun h50 => ?_) (fun h50 => ?_)
          · refine W_seq ?_
            refine W_region ?_
            refine L_run (.plain rfl) rfl rfl (r_assign (v := .bool _) rfl) ?_
            refine L_nil ?_
            refine W_ret ?_
            refine ret1 (v := .bool _) rfl rfl ?_
            refine ⟨?_, by (repeat (first | exact Ch.refl _ | assumption | (refine Ch.fresh ?_ (by assumption) (by intro i hi he; first | exact he | exact (not_no he).elim | (exfalso; have he2 : i = _ := he; omega)))))⟩
            first
              | (apply bool_f; rintro ⟨k1, k2, k3, k4⟩
                 first
                   | omega
                   | (have h1 := k4 i hin
                      have h2 : i = 0 → ¬ digitC (bat s i).toNat := fun e => by rw [e]; exact k3
                      unfold lettC at hlt
                      unfold nameC greatC smallC digitC at *
                      cases lt <;> simp at hlt <;> first | omega | simp_all))
              | (apply bool_dec
                 unfold nameP
                 constructor
                 · intro hh
                   exact ⟨by omega, by omega, (hok 0 (by omega)).2 rfl, fun j hj => (hok j (by omega)).1⟩
                 · rintro ⟨k1, k2, k3, k4⟩
                   omega)
          · refine W_skip ?_
            refine W_region ?_
            refine L_run (.plain rfl) rfl rfl (r_move (v := .int _ _) rfl) ?_
            refine L_run (.plain rfl) rfl rfl (r_add rfl rfl (by first | exact wr_i64 (by omega) | rfl)) ?_
            refine L_run (.plain rfl) rfl rfl (r_assign (v := .int _ _) rfl) ?_
            refine L_nil ?_
            refine ⟨⟨rfl, trivial⟩, _, ?_, i + 1, rfl, ?_, rfl⟩
            · omega
            refine ⟨by omega, fun j hj => ?_, by (repeat (first | exact Ch.refl _ | assumption | (refine Ch.fresh ?_ (by assumption) (by intro i hi he; first | exact he | exact (not_no he).elim | (exfalso; have he2 : i = _ := he; omega)))))⟩
            by_cases e : j < i
            · exact hok j e
            · have e2 : j = i := by omega
              subst e2
              unfold lettC at hlt
              unfold nameC greatC smallC digitC at *
              cases lt
              · simp at hlt
                refine ⟨?_, fun h0 => ?_⟩ <;> first | omega | simp_all
              · simp at hlt
                refine ⟨?_, fun h0 => ?_⟩ <;> first | omega | simp_all
    · refine L_pass rfl rfl rfl rfl rfl ?_
      refine L_pass rfl rfl rfl rfl rfl ?_
      refine L_pass rfl rfl rfl rfl rfl ?_
      refine L_passu rfl rfl rfl rfl ?_
      refine L_passu rfl rfl rfl rfl ?_
      refine L_passu rfl rfl rfl rfl ?_
      refine L_passu rfl rfl rfl rfl ?_
      refine L_pass rfl rfl rfl rfl rfl ?_
      refine L_pass rfl rfl rfl rfl rfl ?_
      refine L_passu rfl rfl rfl rfl ?_
      refine L_passu rfl rfl rfl rfl ?_
      refine L_passu rfl rfl rfl rfl ?_
      refine L_passu rfl rfl rfl rfl ?_
      refine L_pass rfl rfl rfl rfl rfl ?_
      refine L_run (.plain rfl) rfl rfl (r_pick_f (v := .bool _) rfl rfl) ?_
      refine L_nil ?_
      refine W_false rfl ?_
      refine W_skip ?_
      refine W_region ?_
      refine L_run (.plain rfl) rfl rfl (r_move (v := .int _ _) rfl) ?_
      refine L_run (.plain rfl) rfl rfl (r_add rfl rfl (by first | exact wr_i64 (by omega) | rfl)) ?_
      refine L_run (.plain rfl) rfl rfl (r_assign (v := .int _ _) rfl) ?_
      refine L_nil ?_
      refine ⟨⟨rfl, trivial⟩, _, ?_, i + 1, rfl, ?_, rfl⟩
      · omega
      refine ⟨by omega, fun j hj => ?_, by (repeat (first | exact Ch.refl _ | assumption | (refine Ch.fresh ?_ (by assumption) (by intro i hi he; first | exact he | exact (not_no he).elim | (exfalso; have he2 : i = _ := he; omega)))))⟩
      by_cases e : j < i
      · exact hok j e
      · have e2 : j = i := by omega
        subst e2
        unfold lettC at hlt
        unfold nameC greatC smallC digitC at *
        cases lt
        · simp at hlt
          refine ⟨?_, fun h0 => ?_⟩ <;> first | omega | simp_all
        · simp at hlt
          refine ⟨?_, fun h0 => ?_⟩ <;> first | omega | simp_all
  · refine W_exit ?_
    repeat (first | refine blk_hit ?_ | refine blk_miss rfl ?_)
    refine W_seq ?_
    refine W_region ?_
    refine L_run (.plain rfl) rfl rfl (r_move (v := .string _) rfl) ?_
    refine L_run (.plain rfl) rfl rfl (r_lens Try.underlying9 rfl) ?_
    refine L_run (.plain rfl) rfl rfl (r_geq rfl rfl) ?_
    refine L_run (.plain rfl) rfl rfl (r_move (v := .bool _) rfl) ?_
    refine L_case (d := 54) rfl (fun h54 => ?_) (fun h54 => ?_)
    · refine L_run (.yes 3 true rfl rfl) rfl rfl (r_move (v := .string _) rfl) ?_
      refine L_run (.yes 3 true rfl rfl) rfl rfl (r_lens Try.underlying9 rfl) ?_
      refine L_run (.yes 3 true rfl rfl) rfl rfl (r_leq rfl rfl) ?_
      refine L_run (.plain rfl) rfl rfl (r_pick_t (v := .bool _) rfl rfl) ?_
      refine L_run (.plain rfl) rfl rfl (r_assign (v := .bool _) rfl) ?_
      refine L_nil ?_
      refine W_ret ?_
      refine ret1 (v := .bool _) rfl rfl ?_
      refine ⟨?_, by (repeat (first | exact Ch.refl _ | assumption | (refine Ch.fresh ?_ (by assumption) (by intro i hi he; first | exact he | exact (not_no he).elim | (exfalso; have he2 : i = _ := he; omega)))))⟩
      first
        | (apply bool_f; rintro ⟨k1, k2, k3, k4⟩
           first
             | omega
             | (have h1 := k4 i hin
                have h2 : i = 0 → ¬ digitC (bat s i).toNat := fun e => by rw [e]; exact k3
                unfold lettC at hlt
                unfold nameC greatC smallC digitC at *
                cases lt <;> simp at hlt <;> first | omega | simp_all))
        | (apply bool_dec
           unfold nameP
           constructor
           · intro hh
             exact ⟨by omega, by omega, (hok 0 (by omega)).2 rfl, fun j hj => (hok j (by omega)).1⟩
           · rintro ⟨k1, k2, k3, k4⟩
             omega)
    · refine L_pass rfl rfl rfl rfl rfl ?_
      refine L_pass rfl rfl rfl rfl rfl ?_
      refine L_pass rfl rfl rfl rfl rfl ?_
      refine L_run (.plain rfl) rfl rfl (r_pick_f (v := .bool _) rfl rfl) ?_
      refine L_run (.plain rfl) rfl rfl (r_assign (v := .bool _) rfl) ?_
      refine L_nil ?_
      refine W_ret ?_
      refine ret1 (v := .bool _) rfl rfl ?_
      refine ⟨?_, by (repeat (first | exact Ch.refl _ | assumption | (refine Ch.fresh ?_ (by assumption) (by intro i hi he; first | exact he | exact (not_no he).elim | (exfalso; have he2 : i = _ := he; omega)))))⟩
      first
        | (apply bool_f; rintro ⟨k1, k2, k3, k4⟩
           first
             | omega
             | (have h1 := k4 i hin
                have h2 : i = 0 → ¬ digitC (bat s i).toNat := fun e => by rw [e]; exact k3
                unfold lettC at hlt
                unfold nameC greatC smallC digitC at *
                cases lt <;> simp at hlt <;> first | omega | simp_all))
        | (apply bool_dec
           unfold nameP
           constructor
           · intro hh
             exact ⟨by omega, by omega, (hok 0 (by omega)).2 rfl, fun j hj => (hok j (by omega)).1⟩
           · rintro ⟨k1, k2, k3, k4⟩
             omega)
def memberP (s : ByteArray) : Prop := nameP s ∧ 97 ≤ ((bat s 0).toNat : Int)
instance (s : ByteArray) : Decidable (memberP s) := inferInstanceAs (Decidable (_ ∧ _))
theorem member_iff (s : ByteArray) : memberP s ↔ (nameP s ∧ ¬ classP s) := by
  constructor
  · rintro ⟨h1, h2⟩
    refine ⟨h1, fun h3 => ?_⟩
    have := h3.2
    unfold greatC at this
    omega
  · rintro ⟨h1, h2⟩
    refine ⟨h1, ?_⟩
    have h3 := h1.2.2.2 0 h1.1
    have h4 := h1.2.2.1
    have h5 : ¬ greatC (bat s 0).toNat := fun h => h2 ⟨h1, h⟩
    unfold nameC greatC smallC digitC at *
    omega
theorem member_walk (s : ByteArray) (w0 : World) (hs : s.size ≤ 1000000000) : Does Try.prog 31 #[.string s] w0 (fun r w' => r = .bool (decide (memberP s)) ∧ Nw w0 w') := by
  refine fn_of (n := 10) (args := [.string s]) Try.func31 rfl rfl rfl ?_
  refine W_seq ?_
  refine W_region ?_
  refine L_run (.plain rfl) rfl rfl (r_assign (v := .bool _) rfl) ?_
  refine L_nil ?_
  refine W_seq ?_
  refine W_region ?_
  refine L_run (.plain rfl) rfl rfl (r_move (v := .string _) rfl) ?_
  refine L_call (.plain rfl) rfl rfl (r_call Try.func33 rfl rfl rfl (by rfl)) (rname_walk s _ hs) ?_
  rintro v4 w1 ⟨rfl, c1⟩
  have hz1 := c1.size
  refine L_run (.plain rfl) rfl rfl (r_move (v := .bool _) rfl) ?_
  refine L_caseb (d := 5) rfl (fun h5 => ?_) (fun h5 => ?_)
  · have hnm : nameP s := by simpa using (by assumption : decide (nameP s) = true)
    have hpos := hnm.1
    refine L_run (.yes 2 true rfl rfl) rfl rfl (r_move (v := .string _) rfl) ?_
    refine L_run (.yes 2 true rfl rfl) rfl rfl (r_indexs Try.underlying9 rfl rfl (by omega) (by omega) (by conv => lhs; (try simp only [Nat.mul_one, Nat.zero_add, Int.toNat_natCast, Int.toNat_zero, Int.reduceToNat, Nat.reduceMul, Nat.reduceAdd]))) ?_
    refine L_run (.yes 2 true rfl rfl) rfl rfl (r_geq rfl rfl) ?_
    refine L_run (.plain rfl) rfl rfl (r_pick_t (v := .bool _) rfl rfl) ?_
    refine L_run (.plain rfl) rfl rfl (r_assign (v := .bool _) rfl) ?_
    refine L_nil ?_
    refine W_ret ?_
    refine ret1 (v := .bool _) rfl rfl ?_
    refine ⟨?_, by (repeat (first | exact Ch.refl _ | assumption | (refine Ch.fresh ?_ (by assumption) (by intro i hi he; first | exact he | exact (not_no he).elim | exact Or.inl he | exact Or.inr (Or.inl he) | exact Or.inr (Or.inr he) | (exfalso; have he2 : _ = some i := he; have := own_base (by assumption) he2; omega) | (exfalso; have he2 : i = _ := he; omega) | (exfalso; have he2 : _ = some i := he; have := ow_base (by assumption) he2; omega) | (exfalso; have := he.1; omega) | (exfalso; have he2 : _ = some i := he; have := hlo _ he2; omega)))))⟩
    first
      | exact bool_f (fun h => hnm h.1)
      | exact bool_dec ⟨fun h => ⟨hnm, h⟩, fun h => h.2⟩
  · have hnm : ¬ nameP s := by simpa using (by assumption : decide (nameP s) = false)
    refine L_pass rfl rfl rfl rfl rfl ?_
    refine L_pass rfl rfl rfl rfl rfl ?_
    refine L_pass rfl rfl rfl rfl rfl ?_
    refine L_run (.plain rfl) rfl rfl (r_pick_f (v := .bool _) rfl rfl) ?_
    refine L_run (.plain rfl) rfl rfl (r_assign (v := .bool _) rfl) ?_
    refine L_nil ?_
    refine W_ret ?_
    refine ret1 (v := .bool _) rfl rfl ?_
    refine ⟨?_, by (repeat (first | exact Ch.refl _ | assumption | (refine Ch.fresh ?_ (by assumption) (by intro i hi he; first | exact he | exact (not_no he).elim | exact Or.inl he | exact Or.inr (Or.inl he) | exact Or.inr (Or.inr he) | (exfalso; have he2 : _ = some i := he; have := own_base (by assumption) he2; omega) | (exfalso; have he2 : i = _ := he; omega) | (exfalso; have he2 : _ = some i := he; have := ow_base (by assumption) he2; omega) | (exfalso; have := he.1; omega) | (exfalso; have he2 : _ = some i := he; have := hlo _ he2; omega)))))⟩
    first
      | exact bool_f (fun h => hnm h.1)
      | exact bool_dec ⟨fun h => ⟨hnm, h⟩, fun h => h.2⟩
set_option maxRecDepth 100000 in
set_option maxHeartbeats 4000000 in
theorem rcheck_walk (m : Msg) (w0 : World) (ho : m.ok) (hs : m.method.size ≤ 1000000000) : Does Try.prog 21 #[m.v] w0 (fun r w' => r = .int .i64 (checkC m) ∧ Nw w0 w') := by
  have ho1 := ho.life
  have ho2 := ho.seq
  have ho3 := ho.below
  have ho4 := ho.object
  refine fn_of (n := 75) (args := [m.v]) Try.func21 rfl rfl rfl ?_
  refine W_seq ?_
  refine W_region ?_
  refine L_new (.plain rfl) rfl rfl (r_boxa rfl) (fun w1 b1 hb1 eb1 hs1 c1 => ?_)
  refine L_run (.plain rfl) rfl rfl (r_assign (v := .int _ _) rfl) ?_
  refine L_nil ?_
  refine W_seq ?_
  refine W_seq ?_
  refine W_region ?_
  refine L_run (.plain rfl) rfl rfl (r_fieldb Try.underlying33 rfl (show _ = some 1 from rfl) rfl rfl (show _ = 7 from rfl)) ?_
  refine L_run (.plain rfl) rfl rfl (r_loadb rfl rfl (by (exact Bk.to (by assumption) (by (repeat (first | exact Sm.refl _ _ | (refine Sm.stepT (by assumption) (by intro hlt hsm; first | exact not_no | (intro he; have he2 : _ = _ := he; omega)) ?_)))))) (by first | assumption | (conv => lhs; simp only [List.getElem?_toArray, List.getElem?_cons_succ, List.getElem?_cons_zero]))) ?_
  refine L_run (.plain rfl) rfl rfl (r_lens Try.underlying9 rfl) ?_
  refine L_run (.plain rfl) rfl rfl (r_gtr rfl rfl) ?_
  refine L_nil ?_
  refine W_if rfl (fun h7 => ?_) (fun h7 => ?_)
  · refine W_seq ?_
    refine W_region ?_
    refine L_run (.plain rfl) rfl rfl (r_assign (v := .int _ _) rfl) ?_
    refine L_nil ?_
    refine W_ret ?_
    refine ret1 (v := .int _ _) rfl rfl ?_
    first
      | exact ⟨by unfold checkC; rw [if_pos (by omega)], by (repeat (first | exact Ch.refl _ | assumption | (refine Ch.fresh ?_ (by assumption) (by intro i hi he; first | exact he | exact (not_no he).elim | (exfalso; have he2 : i = _ := he; omega)))))⟩
      | exact ⟨by unfold checkC; rw [if_neg (by omega), if_neg hno], by (repeat (first | exact Ch.refl _ | assumption | (refine Ch.fresh ?_ (by assumption) (by intro i hi he; first | exact he | exact (not_no he).elim | (exfalso; have he2 : i = _ := he; omega)))))⟩
      | exact ⟨by unfold checkC; rw [if_neg (by omega), if_pos hye], by (repeat (first | exact Ch.refl _ | assumption | (refine Ch.fresh ?_ (by assumption) (by intro i hi he; first | exact he | exact (not_no he).elim | (exfalso; have he2 : i = _ := he; omega)))))⟩
  · refine W_skip ?_
    refine W_cutF [1] (fun f W => ∃ (ok : Bool), f 3 = .bool ok ∧ ((ok = true ↔ (0 < m.life ∧ 0 < m.seq)) ∧ W = w1)) ?_ ?_
    · refine W_region ?_
      refine L_run (.plain rfl) rfl rfl (r_fieldb Try.underlying33 rfl (show _ = some 1 from rfl) rfl rfl (show _ = 1 from rfl)) ?_
      refine L_run (.plain rfl) rfl rfl (r_loadb rfl rfl (by (exact Bk.to (by assumption) (by (repeat (first | exact Sm.refl _ _ | (refine Sm.stepT (by assumption) (by intro hlt hsm; first | exact not_no | (intro he; have he2 : _ = _ := he; omega)) ?_)))))) (by first | assumption | (conv => lhs; simp only [List.getElem?_toArray, List.getElem?_cons_succ, List.getElem?_cons_zero]))) ?_
      refine L_run (.plain rfl) rfl rfl (r_gtr rfl rfl) ?_
      refine L_run (.plain rfl) rfl rfl (r_move (v := .bool _) rfl) ?_
      refine L_case (d := 11) rfl (fun h11 => ?_) (fun h11 => ?_)
      · refine L_run (.yes 3 true rfl rfl) rfl rfl (r_fieldb Try.underlying33 rfl (show _ = some 1 from rfl) rfl rfl (show _ = 2 from rfl)) ?_
        refine L_run (.yes 3 true rfl rfl) rfl rfl (r_loadb rfl rfl (by (exact Bk.to (by assumption) (by (repeat (first | exact Sm.refl _ _ | (refine Sm.stepT (by assumption) (by intro hlt hsm; first | exact not_no | (intro he; have he2 : _ = _ := he; omega)) ?_)))))) (by first | assumption | (conv => lhs; simp only [List.getElem?_toArray, List.getElem?_cons_succ, List.getElem?_cons_zero]))) ?_
        refine L_run (.yes 3 true rfl rfl) rfl rfl (r_gtr rfl rfl) ?_
        refine L_run (.plain rfl) rfl rfl (r_pick_t (v := .bool _) rfl rfl) ?_
        refine L_run (.plain rfl) rfl rfl (r_assign (v := .bool _) rfl) ?_
        refine L_nil ?_
        refine ⟨⟨rfl, trivial⟩, _, rfl, ?_⟩
        refine ⟨?_, rfl⟩
        first
          | (simp only [decide_eq_true_eq]; omega)
          | (simp; omega)
      · refine L_pass rfl rfl rfl rfl rfl ?_
        refine L_pass rfl rfl rfl rfl rfl ?_
        refine L_pass rfl rfl rfl rfl rfl ?_
        refine L_run (.plain rfl) rfl rfl (r_pick_f (v := .bool _) rfl rfl) ?_
        refine L_run (.plain rfl) rfl rfl (r_assign (v := .bool _) rfl) ?_
        refine L_nil ?_
        refine ⟨⟨rfl, trivial⟩, _, rfl, ?_⟩
        refine ⟨?_, rfl⟩
        first
          | (simp only [decide_eq_true_eq]; omega)
          | (simp; omega)
    rintro gcr3 w2 ⟨ok, hf3, hCr3⟩
    refine W_as 3 hf3 rfl ?_
    clear hf3
    obtain ⟨hok, rfl⟩ := hCr3
    refine W_seq ?_
    refine W_seq ?_
    refine W_region ?_
    refine L_run (.plain rfl) rfl rfl (r_fieldb Try.underlying33 rfl (show _ = some 1 from rfl) rfl rfl (show _ = 0 from rfl)) ?_
    refine L_run (.plain rfl) rfl rfl (r_loadb rfl rfl (by (exact Bk.to (by assumption) (by (repeat (first | exact Sm.refl _ _ | (refine Sm.stepT (by assumption) (by intro hlt hsm; first | exact not_no | (intro he; have he2 : _ = _ := he; omega)) ?_)))))) (by first | assumption | (conv => lhs; simp only [List.getElem?_toArray, List.getElem?_cons_succ, List.getElem?_cons_zero]))) ?_
    refine L_run (.plain rfl) rfl rfl (r_eql rfl rfl) ?_
    refine L_nil ?_
    refine W_endF [] (fun f W => ∃ (ok2 : Bool), f 3 = .bool ok2 ∧ ((ok2 = true ↔ rightP m) ∧ Nw w0 W)) ?_ ?_
    · refine W_if rfl (fun h18 => ?_) (fun h18 => ?_)
      · refine W_region ?_
        refine L_run (.plain rfl) rfl rfl (r_move (v := .bool _) rfl) ?_
        refine L_run (.plain rfl) rfl rfl (r_move (v := .bool _) rfl) ?_
        refine L_caseb (d := 20) rfl (fun h20 => ?_) (fun h20 => ?_)
        · have hok1 := hok.1 (by assumption)
          refine L_run (.yes 1 true rfl rfl) rfl rfl (r_fieldb Try.underlying33 rfl (show _ = some 1 from rfl) rfl rfl (show _ = 3 from rfl)) ?_
          refine L_run (.yes 1 true rfl rfl) rfl rfl (r_loadb rfl rfl (by (exact Bk.to (by assumption) (by (repeat (first | exact Sm.refl _ _ | (refine Sm.stepT (by assumption) (by intro hlt hsm; first | exact not_no | (intro he; have he2 : _ = _ := he; omega)) ?_)))))) (by first | assumption | (conv => lhs; simp only [List.getElem?_toArray, List.getElem?_cons_succ, List.getElem?_cons_zero]))) ?_
          refine L_run (.yes 1 true rfl rfl) rfl rfl (r_gtr rfl rfl) ?_
          refine L_run (.plain rfl) rfl rfl (r_pick_t (v := .bool _) rfl rfl) ?_
          refine L_run (.plain rfl) rfl rfl (r_move (v := .bool _) rfl) ?_
          refine L_case (d := 25) rfl (fun h25 => ?_) (fun h25 => ?_)
          · refine L_run (.yes 6 true rfl rfl) rfl rfl (r_fieldb Try.underlying33 rfl (show _ = some 1 from rfl) rfl rfl (show _ = 3 from rfl)) ?_
            refine L_run (.yes 6 true rfl rfl) rfl rfl (r_loadb rfl rfl (by (exact Bk.to (by assumption) (by (repeat (first | exact Sm.refl _ _ | (refine Sm.stepT (by assumption) (by intro hlt hsm; first | exact not_no | (intro he; have he2 : _ = _ := he; omega)) ?_)))))) (by first | assumption | (conv => lhs; simp only [List.getElem?_toArray, List.getElem?_cons_succ, List.getElem?_cons_zero]))) ?_
            refine L_run (.yes 6 true rfl rfl) rfl rfl (r_fieldb Try.underlying33 rfl (show _ = some 1 from rfl) rfl rfl (show _ = 2 from rfl)) ?_
            refine L_run (.yes 6 true rfl rfl) rfl rfl (r_loadb rfl rfl (by (exact Bk.to (by assumption) (by (repeat (first | exact Sm.refl _ _ | (refine Sm.stepT (by assumption) (by intro hlt hsm; first | exact not_no | (intro he; have he2 : _ = _ := he; omega)) ?_)))))) (by first | assumption | (conv => lhs; simp only [List.getElem?_toArray, List.getElem?_cons_succ, List.getElem?_cons_zero]))) ?_
            refine L_run (.yes 6 true rfl rfl) rfl rfl (r_leq rfl rfl) ?_
            refine L_run (.plain rfl) rfl rfl (r_pick_t (v := .bool _) rfl rfl) ?_
            refine L_run (.plain rfl) rfl rfl (r_move (v := .bool _) rfl) ?_
            refine L_case (d := 32) rfl (fun h32 => ?_) (fun h32 => ?_)
            · refine L_run (.yes 13 true rfl rfl) rfl rfl (r_fieldb Try.underlying33 rfl (show _ = some 1 from rfl) rfl rfl (show _ = 5 from rfl)) ?_
              refine L_run (.yes 13 true rfl rfl) rfl rfl (r_loadb rfl rfl (by (exact Bk.to (by assumption) (by (repeat (first | exact Sm.refl _ _ | (refine Sm.stepT (by assumption) (by intro hlt hsm; first | exact not_no | (intro he; have he2 : _ = _ := he; omega)) ?_)))))) (by first | assumption | (conv => lhs; simp only [List.getElem?_toArray, List.getElem?_cons_succ, List.getElem?_cons_zero]))) ?_
              refine L_call (.yes 13 true rfl rfl) rfl rfl (r_call Try.func31 rfl rfl rfl (by rfl)) (member_walk m.method _ hs) ?_
              rintro v35 w3 ⟨rfl, c3⟩
              have hz3 := c3.size
              refine L_run (.plain rfl) rfl rfl (r_pick_t (v := .bool _) rfl rfl) ?_
              refine L_run (.plain rfl) rfl rfl (r_move (v := .bool _) rfl) ?_
              refine L_caseb (d := 37) rfl (fun h37 => ?_) (fun h37 => ?_)
              · refine L_run (.yes 18 true rfl rfl) rfl rfl (r_fieldb Try.underlying33 rfl (show _ = some 1 from rfl) rfl rfl (show _ = 6 from rfl)) ?_
                refine L_run (.yes 18 true rfl rfl) rfl rfl (r_loadb rfl rfl (by (exact Bk.to (by assumption) (by (repeat (first | exact Sm.refl _ _ | (refine Sm.stepT (by assumption) (by intro hlt hsm; first | exact not_no | (intro he; have he2 : _ = _ := he; omega)) ?_)))))) (by first | assumption | (conv => lhs; simp only [List.getElem?_toArray, List.getElem?_cons_succ, List.getElem?_cons_zero]))) ?_
                refine L_run (.yes 18 true rfl rfl) rfl rfl (r_eql rfl rfl) ?_
                refine L_run (.plain rfl) rfl rfl (r_pick_t (v := .bool _) rfl rfl) ?_
                refine L_run (.plain rfl) rfl rfl (r_assign (v := .bool _) rfl) ?_
                refine L_nil ?_
                refine ⟨trivial, _, rfl, ?_⟩
                refine ⟨?_, by (repeat (first | exact Ch.refl _ | assumption | (refine Ch.fresh ?_ (by assumption) (by intro i hi he; first | exact he | exact (not_no he).elim | (exfalso; have he2 : i = _ := he; omega)))))⟩
                have hmi := member_iff m.method
                unfold rightP
                first
                  | (simp only [decide_eq_true_eq] at *
                     constructor
                     · intro hh; first | (exact ⟨by omega, by omega, .inl ⟨by omega, by omega, by omega, by (first | exact (hmi.1 (by assumption)).1 | simp_all), by (first | exact (hmi.1 (by assumption)).2 | simp_all), by omega⟩⟩) | (exact ⟨by omega, by omega, .inr ⟨by omega, by omega, by omega, by assumption, by omega, by omega⟩⟩)
                     · rintro ⟨k1, k2, ⟨k3, k4, k5, k6, k7, k8⟩ | ⟨k3, k4, k5, k6, k7, k8⟩⟩ <;> omega)
                  | (constructor
                     · intro hh; exact absurd hh (by decide)
                     · rintro ⟨k1, k2, ⟨k3, k4, k5, k6, k7, k8⟩ | ⟨k3, k4, k5, k6, k7, k8⟩⟩ <;> first | omega | contradiction | (have hmm := hmi.2 ⟨k6, k7⟩; simp_all) | simp_all)
              · refine L_pass rfl rfl rfl rfl rfl ?_
                refine L_pass rfl rfl rfl rfl rfl ?_
                refine L_pass rfl rfl rfl rfl rfl ?_
                refine L_run (.plain rfl) rfl rfl (r_pick_f (v := .bool _) rfl rfl) ?_
                refine L_run (.plain rfl) rfl rfl (r_assign (v := .bool _) rfl) ?_
                refine L_nil ?_
                refine ⟨trivial, _, rfl, ?_⟩
                refine ⟨?_, by (repeat (first | exact Ch.refl _ | assumption | (refine Ch.fresh ?_ (by assumption) (by intro i hi he; first | exact he | exact (not_no he).elim | (exfalso; have he2 : i = _ := he; omega)))))⟩
                have hmi := member_iff m.method
                unfold rightP
                first
                  | (simp only [decide_eq_true_eq] at *
                     constructor
                     · intro hh; first | (exact ⟨by omega, by omega, .inl ⟨by omega, by omega, by omega, by (first | exact (hmi.1 (by assumption)).1 | simp_all), by (first | exact (hmi.1 (by assumption)).2 | simp_all), by omega⟩⟩) | (exact ⟨by omega, by omega, .inr ⟨by omega, by omega, by omega, by assumption, by omega, by omega⟩⟩)
                     · rintro ⟨k1, k2, ⟨k3, k4, k5, k6, k7, k8⟩ | ⟨k3, k4, k5, k6, k7, k8⟩⟩ <;> omega)
                  | (constructor
                     · intro hh; exact absurd hh (by decide)
                     · rintro ⟨k1, k2, ⟨k3, k4, k5, k6, k7, k8⟩ | ⟨k3, k4, k5, k6, k7, k8⟩⟩ <;> first | omega | contradiction | (have hmm := hmi.2 ⟨k6, k7⟩; simp_all) | simp_all)
            · refine L_pass rfl rfl rfl rfl rfl ?_
              refine L_pass rfl rfl rfl rfl rfl ?_
              refine L_pass rfl rfl rfl rfl rfl ?_
              refine L_run (.plain rfl) rfl rfl (r_pick_f (v := .bool _) rfl rfl) ?_
              refine L_run (.plain rfl) rfl rfl (r_move (v := .bool _) rfl) ?_
              refine L_pass rfl rfl rfl rfl rfl ?_
              refine L_pass rfl rfl rfl rfl rfl ?_
              refine L_pass rfl rfl rfl rfl rfl ?_
              refine L_run (.plain rfl) rfl rfl (r_pick_f (v := .bool _) rfl rfl) ?_
              refine L_run (.plain rfl) rfl rfl (r_assign (v := .bool _) rfl) ?_
              refine L_nil ?_
              refine ⟨trivial, _, rfl, ?_⟩
              refine ⟨?_, by (repeat (first | exact Ch.refl _ | assumption | (refine Ch.fresh ?_ (by assumption) (by intro i hi he; first | exact he | exact (not_no he).elim | (exfalso; have he2 : i = _ := he; omega)))))⟩
              have hmi := member_iff m.method
              unfold rightP
              first
                | (simp only [decide_eq_true_eq] at *
                   constructor
                   · intro hh; first | (exact ⟨by omega, by omega, .inl ⟨by omega, by omega, by omega, by (first | exact (hmi.1 (by assumption)).1 | simp_all), by (first | exact (hmi.1 (by assumption)).2 | simp_all), by omega⟩⟩) | (exact ⟨by omega, by omega, .inr ⟨by omega, by omega, by omega, by assumption, by omega, by omega⟩⟩)
                   · rintro ⟨k1, k2, ⟨k3, k4, k5, k6, k7, k8⟩ | ⟨k3, k4, k5, k6, k7, k8⟩⟩ <;> omega)
                | (constructor
                   · intro hh; exact absurd hh (by decide)
                   · rintro ⟨k1, k2, ⟨k3, k4, k5, k6, k7, k8⟩ | ⟨k3, k4, k5, k6, k7, k8⟩⟩ <;> first | omega | contradiction | (have hmm := hmi.2 ⟨k6, k7⟩; simp_all) | simp_all)
          · refine L_pass rfl rfl rfl rfl rfl ?_
            refine L_pass rfl rfl rfl rfl rfl ?_
            refine L_pass rfl rfl rfl rfl rfl ?_
            refine L_pass rfl rfl rfl rfl rfl ?_
            refine L_pass rfl rfl rfl rfl rfl ?_
            refine L_run (.plain rfl) rfl rfl (r_pick_f (v := .bool _) rfl rfl) ?_
            refine L_run (.plain rfl) rfl rfl (r_move (v := .bool _) rfl) ?_
            refine L_pass rfl rfl rfl rfl rfl ?_
            refine L_pass rfl rfl rfl rfl rfl ?_
            refine L_pass rfl rfl rfl rfl rfl ?_
            refine L_run (.plain rfl) rfl rfl (r_pick_f (v := .bool _) rfl rfl) ?_
            refine L_run (.plain rfl) rfl rfl (r_move (v := .bool _) rfl) ?_
            refine L_pass rfl rfl rfl rfl rfl ?_
            refine L_pass rfl rfl rfl rfl rfl ?_
            refine L_pass rfl rfl rfl rfl rfl ?_
            refine L_run (.plain rfl) rfl rfl (r_pick_f (v := .bool _) rfl rfl) ?_
            refine L_run (.plain rfl) rfl rfl (r_assign (v := .bool _) rfl) ?_
            refine L_nil ?_
            refine ⟨trivial, _, rfl, ?_⟩
            refine ⟨?_, by (repeat (first | exact Ch.refl _ | assumption | (refine Ch.fresh ?_ (by assumption) (by intro i hi he; first | exact he | exact (not_no he).elim | (exfalso; have he2 : i = _ := he; omega)))))⟩
            have hmi := member_iff m.method
            unfold rightP
            first
              | (simp only [decide_eq_true_eq] at *
                 constructor
                 · intro hh; first | (exact ⟨by omega, by omega, .inl ⟨by omega, by omega, by omega, by (first | exact (hmi.1 (by assumption)).1 | simp_all), by (first | exact (hmi.1 (by assumption)).2 | simp_all), by omega⟩⟩) | (exact ⟨by omega, by omega, .inr ⟨by omega, by omega, by omega, by assumption, by omega, by omega⟩⟩)
                 · rintro ⟨k1, k2, ⟨k3, k4, k5, k6, k7, k8⟩ | ⟨k3, k4, k5, k6, k7, k8⟩⟩ <;> omega)
              | (constructor
                 · intro hh; exact absurd hh (by decide)
                 · rintro ⟨k1, k2, ⟨k3, k4, k5, k6, k7, k8⟩ | ⟨k3, k4, k5, k6, k7, k8⟩⟩ <;> first | omega | contradiction | (have hmm := hmi.2 ⟨k6, k7⟩; simp_all) | simp_all)
        · have hok0 : ¬ (0 < m.life ∧ 0 < m.seq) := fun h => by have := hok.2 h; rw [this] at h20; cases h20
          refine L_pass rfl rfl rfl rfl rfl ?_
          refine L_pass rfl rfl rfl rfl rfl ?_
          refine L_pass rfl rfl rfl rfl rfl ?_
          refine L_run (.plain rfl) rfl rfl (r_pick_f (v := .bool _) rfl rfl) ?_
          refine L_run (.plain rfl) rfl rfl (r_move (v := .bool _) rfl) ?_
          refine L_pass rfl rfl rfl rfl rfl ?_
          refine L_pass rfl rfl rfl rfl rfl ?_
          refine L_pass rfl rfl rfl rfl rfl ?_
          refine L_pass rfl rfl rfl rfl rfl ?_
          refine L_pass rfl rfl rfl rfl rfl ?_
          refine L_run (.plain rfl) rfl rfl (r_pick_f (v := .bool _) rfl rfl) ?_
          refine L_run (.plain rfl) rfl rfl (r_move (v := .bool _) rfl) ?_
          refine L_pass rfl rfl rfl rfl rfl ?_
          refine L_pass rfl rfl rfl rfl rfl ?_
          refine L_pass rfl rfl rfl rfl rfl ?_
          refine L_run (.plain rfl) rfl rfl (r_pick_f (v := .bool _) rfl rfl) ?_
          refine L_run (.plain rfl) rfl rfl (r_move (v := .bool _) rfl) ?_
          refine L_pass rfl rfl rfl rfl rfl ?_
          refine L_pass rfl rfl rfl rfl rfl ?_
          refine L_pass rfl rfl rfl rfl rfl ?_
          refine L_run (.plain rfl) rfl rfl (r_pick_f (v := .bool _) rfl rfl) ?_
          refine L_run (.plain rfl) rfl rfl (r_assign (v := .bool _) rfl) ?_
          refine L_nil ?_
          refine ⟨trivial, _, rfl, ?_⟩
          refine ⟨?_, by (repeat (first | exact Ch.refl _ | assumption | (refine Ch.fresh ?_ (by assumption) (by intro i hi he; first | exact he | exact (not_no he).elim | (exfalso; have he2 : i = _ := he; omega)))))⟩
          have hmi := member_iff m.method
          unfold rightP
          first
            | (simp only [decide_eq_true_eq] at *
               constructor
               · intro hh; first | (exact ⟨by omega, by omega, .inl ⟨by omega, by omega, by omega, by (first | exact (hmi.1 (by assumption)).1 | simp_all), by (first | exact (hmi.1 (by assumption)).2 | simp_all), by omega⟩⟩) | (exact ⟨by omega, by omega, .inr ⟨by omega, by omega, by omega, by assumption, by omega, by omega⟩⟩)
               · rintro ⟨k1, k2, ⟨k3, k4, k5, k6, k7, k8⟩ | ⟨k3, k4, k5, k6, k7, k8⟩⟩ <;> omega)
            | (constructor
               · intro hh; exact absurd hh (by decide)
               · rintro ⟨k1, k2, ⟨k3, k4, k5, k6, k7, k8⟩ | ⟨k3, k4, k5, k6, k7, k8⟩⟩ <;> first | omega | contradiction | (have hmm := hmi.2 ⟨k6, k7⟩; simp_all) | simp_all)
      · refine W_region ?_
        refine L_run (.plain rfl) rfl rfl (r_move (v := .bool _) rfl) ?_
        refine L_run (.plain rfl) rfl rfl (r_move (v := .bool _) rfl) ?_
        refine L_caseb (d := 43) rfl (fun h43 => ?_) (fun h43 => ?_)
        · have hok1 := hok.1 (by assumption)
          refine L_run (.yes 1 true rfl rfl) rfl rfl (r_fieldb Try.underlying33 rfl (show _ = some 1 from rfl) rfl rfl (show _ = 0 from rfl)) ?_
          refine L_run (.yes 1 true rfl rfl) rfl rfl (r_loadb rfl rfl (by (exact Bk.to (by assumption) (by (repeat (first | exact Sm.refl _ _ | (refine Sm.stepT (by assumption) (by intro hlt hsm; first | exact not_no | (intro he; have he2 : _ = _ := he; omega)) ?_)))))) (by first | assumption | (conv => lhs; simp only [List.getElem?_toArray, List.getElem?_cons_succ, List.getElem?_cons_zero]))) ?_
          refine L_run (.yes 1 true rfl rfl) rfl rfl (r_eql rfl rfl) ?_
          refine L_run (.plain rfl) rfl rfl (r_pick_t (v := .bool _) rfl rfl) ?_
          refine L_run (.plain rfl) rfl rfl (r_move (v := .bool _) rfl) ?_
          refine L_case (d := 48) rfl (fun h48 => ?_) (fun h48 => ?_)
          · refine L_run (.yes 6 true rfl rfl) rfl rfl (r_fieldb Try.underlying33 rfl (show _ = some 1 from rfl) rfl rfl (show _ = 3 from rfl)) ?_
            refine L_run (.yes 6 true rfl rfl) rfl rfl (r_loadb rfl rfl (by (exact Bk.to (by assumption) (by (repeat (first | exact Sm.refl _ _ | (refine Sm.stepT (by assumption) (by intro hlt hsm; first | exact not_no | (intro he; have he2 : _ = _ := he; omega)) ?_)))))) (by first | assumption | (conv => lhs; simp only [List.getElem?_toArray, List.getElem?_cons_succ, List.getElem?_cons_zero]))) ?_
            refine L_run (.yes 6 true rfl rfl) rfl rfl (r_eql rfl rfl) ?_
            refine L_run (.plain rfl) rfl rfl (r_pick_t (v := .bool _) rfl rfl) ?_
            refine L_run (.plain rfl) rfl rfl (r_move (v := .bool _) rfl) ?_
            refine L_case (d := 53) rfl (fun h53 => ?_) (fun h53 => ?_)
            · refine L_run (.yes 11 true rfl rfl) rfl rfl (r_fieldb Try.underlying33 rfl (show _ = some 1 from rfl) rfl rfl (show _ = 4 from rfl)) ?_
              refine L_run (.yes 11 true rfl rfl) rfl rfl (r_loadb rfl rfl (by (exact Bk.to (by assumption) (by (repeat (first | exact Sm.refl _ _ | (refine Sm.stepT (by assumption) (by intro hlt hsm; first | exact not_no | (intro he; have he2 : _ = _ := he; omega)) ?_)))))) (by first | assumption | (conv => lhs; simp only [List.getElem?_toArray, List.getElem?_cons_succ, List.getElem?_cons_zero]))) ?_
              refine L_run (.yes 11 true rfl rfl) rfl rfl (r_eql rfl rfl) ?_
              refine L_run (.plain rfl) rfl rfl (r_pick_t (v := .bool _) rfl rfl) ?_
              refine L_run (.plain rfl) rfl rfl (r_move (v := .bool _) rfl) ?_
              refine L_case (d := 58) rfl (fun h58 => ?_) (fun h58 => ?_)
              · refine L_run (.yes 16 true rfl rfl) rfl rfl (r_fieldb Try.underlying33 rfl (show _ = some 1 from rfl) rfl rfl (show _ = 5 from rfl)) ?_
                refine L_run (.yes 16 true rfl rfl) rfl rfl (r_loadb rfl rfl (by (exact Bk.to (by assumption) (by (repeat (first | exact Sm.refl _ _ | (refine Sm.stepT (by assumption) (by intro hlt hsm; first | exact not_no | (intro he; have he2 : _ = _ := he; omega)) ?_)))))) (by first | assumption | (conv => lhs; simp only [List.getElem?_toArray, List.getElem?_cons_succ, List.getElem?_cons_zero]))) ?_
                refine L_run (.yes 16 true rfl rfl) rfl rfl (r_eqls rfl rfl) ?_
                refine L_run (.plain rfl) rfl rfl (r_pick_t (v := .bool _) rfl rfl) ?_
                refine L_run (.plain rfl) rfl rfl (r_move (v := .bool _) rfl) ?_
                refine L_case (d := 63) rfl (fun h63 => ?_) (fun h63 => ?_)
                · refine L_run (.yes 21 true rfl rfl) rfl rfl (r_fieldb Try.underlying33 rfl (show _ = some 1 from rfl) rfl rfl (show _ = 6 from rfl)) ?_
                  refine L_run (.yes 21 true rfl rfl) rfl rfl (r_loadb rfl rfl (by (exact Bk.to (by assumption) (by (repeat (first | exact Sm.refl _ _ | (refine Sm.stepT (by assumption) (by intro hlt hsm; first | exact not_no | (intro he; have he2 : _ = _ := he; omega)) ?_)))))) (by first | assumption | (conv => lhs; simp only [List.getElem?_toArray, List.getElem?_cons_succ, List.getElem?_cons_zero]))) ?_
                  refine L_run (.yes 21 true rfl rfl) rfl rfl (r_geq rfl rfl) ?_
                  refine L_run (.plain rfl) rfl rfl (r_pick_t (v := .bool _) rfl rfl) ?_
                  refine L_run (.plain rfl) rfl rfl (r_move (v := .bool _) rfl) ?_
                  refine L_case (d := 68) rfl (fun h68 => ?_) (fun h68 => ?_)
                  · refine L_run (.yes 26 true rfl rfl) rfl rfl (r_fieldb Try.underlying33 rfl (show _ = some 1 from rfl) rfl rfl (show _ = 6 from rfl)) ?_
                    refine L_run (.yes 26 true rfl rfl) rfl rfl (r_loadb rfl rfl (by (exact Bk.to (by assumption) (by (repeat (first | exact Sm.refl _ _ | (refine Sm.stepT (by assumption) (by intro hlt hsm; first | exact not_no | (intro he; have he2 : _ = _ := he; omega)) ?_)))))) (by first | assumption | (conv => lhs; simp only [List.getElem?_toArray, List.getElem?_cons_succ, List.getElem?_cons_zero]))) ?_
                    refine L_run (.yes 26 true rfl rfl) rfl rfl (r_leq rfl rfl) ?_
                    refine L_run (.plain rfl) rfl rfl (r_pick_t (v := .bool _) rfl rfl) ?_
                    refine L_run (.plain rfl) rfl rfl (r_assign (v := .bool _) rfl) ?_
                    refine L_nil ?_
                    refine ⟨trivial, _, rfl, ?_⟩
                    refine ⟨?_, by (repeat (first | exact Ch.refl _ | assumption | (refine Ch.fresh ?_ (by assumption) (by intro i hi he; first | exact he | exact (not_no he).elim | (exfalso; have he2 : i = _ := he; omega)))))⟩
                    have hmi := member_iff m.method
                    unfold rightP
                    first
                      | (simp only [decide_eq_true_eq] at *
                         constructor
                         · intro hh; first | (exact ⟨by omega, by omega, .inl ⟨by omega, by omega, by omega, by (first | exact (hmi.1 (by assumption)).1 | simp_all), by (first | exact (hmi.1 (by assumption)).2 | simp_all), by omega⟩⟩) | (exact ⟨by omega, by omega, .inr ⟨by omega, by omega, by omega, by assumption, by omega, by omega⟩⟩)
                         · rintro ⟨k1, k2, ⟨k3, k4, k5, k6, k7, k8⟩ | ⟨k3, k4, k5, k6, k7, k8⟩⟩ <;> omega)
                      | (constructor
                         · intro hh; exact absurd hh (by decide)
                         · rintro ⟨k1, k2, ⟨k3, k4, k5, k6, k7, k8⟩ | ⟨k3, k4, k5, k6, k7, k8⟩⟩ <;> first | omega | contradiction | (have hmm := hmi.2 ⟨k6, k7⟩; simp_all) | simp_all)
                  · refine L_pass rfl rfl rfl rfl rfl ?_
                    refine L_pass rfl rfl rfl rfl rfl ?_
                    refine L_pass rfl rfl rfl rfl rfl ?_
                    refine L_run (.plain rfl) rfl rfl (r_pick_f (v := .bool _) rfl rfl) ?_
                    refine L_run (.plain rfl) rfl rfl (r_assign (v := .bool _) rfl) ?_
                    refine L_nil ?_
                    refine ⟨trivial, _, rfl, ?_⟩
                    refine ⟨?_, by (repeat (first | exact Ch.refl _ | assumption | (refine Ch.fresh ?_ (by assumption) (by intro i hi he; first | exact he | exact (not_no he).elim | (exfalso; have he2 : i = _ := he; omega)))))⟩
                    have hmi := member_iff m.method
                    unfold rightP
                    first
                      | (simp only [decide_eq_true_eq] at *
                         constructor
                         · intro hh; first | (exact ⟨by omega, by omega, .inl ⟨by omega, by omega, by omega, by (first | exact (hmi.1 (by assumption)).1 | simp_all), by (first | exact (hmi.1 (by assumption)).2 | simp_all), by omega⟩⟩) | (exact ⟨by omega, by omega, .inr ⟨by omega, by omega, by omega, by assumption, by omega, by omega⟩⟩)
                         · rintro ⟨k1, k2, ⟨k3, k4, k5, k6, k7, k8⟩ | ⟨k3, k4, k5, k6, k7, k8⟩⟩ <;> omega)
                      | (constructor
                         · intro hh; exact absurd hh (by decide)
                         · rintro ⟨k1, k2, ⟨k3, k4, k5, k6, k7, k8⟩ | ⟨k3, k4, k5, k6, k7, k8⟩⟩ <;> first | omega | contradiction | (have hmm := hmi.2 ⟨k6, k7⟩; simp_all) | simp_all)
                · refine L_pass rfl rfl rfl rfl rfl ?_
                  refine L_pass rfl rfl rfl rfl rfl ?_
                  refine L_pass rfl rfl rfl rfl rfl ?_
                  refine L_run (.plain rfl) rfl rfl (r_pick_f (v := .bool _) rfl rfl) ?_
                  refine L_run (.plain rfl) rfl rfl (r_move (v := .bool _) rfl) ?_
                  refine L_pass rfl rfl rfl rfl rfl ?_
                  refine L_pass rfl rfl rfl rfl rfl ?_
                  refine L_pass rfl rfl rfl rfl rfl ?_
                  refine L_run (.plain rfl) rfl rfl (r_pick_f (v := .bool _) rfl rfl) ?_
                  refine L_run (.plain rfl) rfl rfl (r_assign (v := .bool _) rfl) ?_
                  refine L_nil ?_
                  refine ⟨trivial, _, rfl, ?_⟩
                  refine ⟨?_, by (repeat (first | exact Ch.refl _ | assumption | (refine Ch.fresh ?_ (by assumption) (by intro i hi he; first | exact he | exact (not_no he).elim | (exfalso; have he2 : i = _ := he; omega)))))⟩
                  have hmi := member_iff m.method
                  unfold rightP
                  first
                    | (simp only [decide_eq_true_eq] at *
                       constructor
                       · intro hh; first | (exact ⟨by omega, by omega, .inl ⟨by omega, by omega, by omega, by (first | exact (hmi.1 (by assumption)).1 | simp_all), by (first | exact (hmi.1 (by assumption)).2 | simp_all), by omega⟩⟩) | (exact ⟨by omega, by omega, .inr ⟨by omega, by omega, by omega, by assumption, by omega, by omega⟩⟩)
                       · rintro ⟨k1, k2, ⟨k3, k4, k5, k6, k7, k8⟩ | ⟨k3, k4, k5, k6, k7, k8⟩⟩ <;> omega)
                    | (constructor
                       · intro hh; exact absurd hh (by decide)
                       · rintro ⟨k1, k2, ⟨k3, k4, k5, k6, k7, k8⟩ | ⟨k3, k4, k5, k6, k7, k8⟩⟩ <;> first | omega | contradiction | (have hmm := hmi.2 ⟨k6, k7⟩; simp_all) | simp_all)
              · refine L_pass rfl rfl rfl rfl rfl ?_
                refine L_pass rfl rfl rfl rfl rfl ?_
                refine L_pass rfl rfl rfl rfl rfl ?_
                refine L_run (.plain rfl) rfl rfl (r_pick_f (v := .bool _) rfl rfl) ?_
                refine L_run (.plain rfl) rfl rfl (r_move (v := .bool _) rfl) ?_
                refine L_pass rfl rfl rfl rfl rfl ?_
                refine L_pass rfl rfl rfl rfl rfl ?_
                refine L_pass rfl rfl rfl rfl rfl ?_
                refine L_run (.plain rfl) rfl rfl (r_pick_f (v := .bool _) rfl rfl) ?_
                refine L_run (.plain rfl) rfl rfl (r_move (v := .bool _) rfl) ?_
                refine L_pass rfl rfl rfl rfl rfl ?_
                refine L_pass rfl rfl rfl rfl rfl ?_
                refine L_pass rfl rfl rfl rfl rfl ?_
                refine L_run (.plain rfl) rfl rfl (r_pick_f (v := .bool _) rfl rfl) ?_
                refine L_run (.plain rfl) rfl rfl (r_assign (v := .bool _) rfl) ?_
                refine L_nil ?_
                refine ⟨trivial, _, rfl, ?_⟩
                refine ⟨?_, by (repeat (first | exact Ch.refl _ | assumption | (refine Ch.fresh ?_ (by assumption) (by intro i hi he; first | exact he | exact (not_no he).elim | (exfalso; have he2 : i = _ := he; omega)))))⟩
                have hmi := member_iff m.method
                unfold rightP
                first
                  | (simp only [decide_eq_true_eq] at *
                     constructor
                     · intro hh; first | (exact ⟨by omega, by omega, .inl ⟨by omega, by omega, by omega, by (first | exact (hmi.1 (by assumption)).1 | simp_all), by (first | exact (hmi.1 (by assumption)).2 | simp_all), by omega⟩⟩) | (exact ⟨by omega, by omega, .inr ⟨by omega, by omega, by omega, by assumption, by omega, by omega⟩⟩)
                     · rintro ⟨k1, k2, ⟨k3, k4, k5, k6, k7, k8⟩ | ⟨k3, k4, k5, k6, k7, k8⟩⟩ <;> omega)
                  | (constructor
                     · intro hh; exact absurd hh (by decide)
                     · rintro ⟨k1, k2, ⟨k3, k4, k5, k6, k7, k8⟩ | ⟨k3, k4, k5, k6, k7, k8⟩⟩ <;> first | omega | contradiction | (have hmm := hmi.2 ⟨k6, k7⟩; simp_all) | simp_all)
            · refine L_pass rfl rfl rfl rfl rfl ?_
              refine L_pass rfl rfl rfl rfl rfl ?_
              refine L_pass rfl rfl rfl rfl rfl ?_
              refine L_run (.plain rfl) rfl rfl (r_pick_f (v := .bool _) rfl rfl) ?_
              refine L_run (.plain rfl) rfl rfl (r_move (v := .bool _) rfl) ?_
              refine L_pass rfl rfl rfl rfl rfl ?_
              refine L_pass rfl rfl rfl rfl rfl ?_
              refine L_pass rfl rfl rfl rfl rfl ?_
              refine L_run (.plain rfl) rfl rfl (r_pick_f (v := .bool _) rfl rfl) ?_
              refine L_run (.plain rfl) rfl rfl (r_move (v := .bool _) rfl) ?_
              refine L_pass rfl rfl rfl rfl rfl ?_
              refine L_pass rfl rfl rfl rfl rfl ?_
              refine L_pass rfl rfl rfl rfl rfl ?_
              refine L_run (.plain rfl) rfl rfl (r_pick_f (v := .bool _) rfl rfl) ?_
              refine L_run (.plain rfl) rfl rfl (r_move (v := .bool _) rfl) ?_
              refine L_pass rfl rfl rfl rfl rfl ?_
              refine L_pass rfl rfl rfl rfl rfl ?_
              refine L_pass rfl rfl rfl rfl rfl ?_
              refine L_run (.plain rfl) rfl rfl (r_pick_f (v := .bool _) rfl rfl) ?_
              refine L_run (.plain rfl) rfl rfl (r_assign (v := .bool _) rfl) ?_
              refine L_nil ?_
              refine ⟨trivial, _, rfl, ?_⟩
              refine ⟨?_, by (repeat (first | exact Ch.refl _ | assumption | (refine Ch.fresh ?_ (by assumption) (by intro i hi he; first | exact he | exact (not_no he).elim | (exfalso; have he2 : i = _ := he; omega)))))⟩
              have hmi := member_iff m.method
              unfold rightP
              first
                | (simp only [decide_eq_true_eq] at *
                   constructor
                   · intro hh; first | (exact ⟨by omega, by omega, .inl ⟨by omega, by omega, by omega, by (first | exact (hmi.1 (by assumption)).1 | simp_all), by (first | exact (hmi.1 (by assumption)).2 | simp_all), by omega⟩⟩) | (exact ⟨by omega, by omega, .inr ⟨by omega, by omega, by omega, by assumption, by omega, by omega⟩⟩)
                   · rintro ⟨k1, k2, ⟨k3, k4, k5, k6, k7, k8⟩ | ⟨k3, k4, k5, k6, k7, k8⟩⟩ <;> omega)
                | (constructor
                   · intro hh; exact absurd hh (by decide)
                   · rintro ⟨k1, k2, ⟨k3, k4, k5, k6, k7, k8⟩ | ⟨k3, k4, k5, k6, k7, k8⟩⟩ <;> first | omega | contradiction | (have hmm := hmi.2 ⟨k6, k7⟩; simp_all) | simp_all)
          · refine L_pass rfl rfl rfl rfl rfl ?_
            refine L_pass rfl rfl rfl rfl rfl ?_
            refine L_pass rfl rfl rfl rfl rfl ?_
            refine L_run (.plain rfl) rfl rfl (r_pick_f (v := .bool _) rfl rfl) ?_
            refine L_run (.plain rfl) rfl rfl (r_move (v := .bool _) rfl) ?_
            refine L_pass rfl rfl rfl rfl rfl ?_
            refine L_pass rfl rfl rfl rfl rfl ?_
            refine L_pass rfl rfl rfl rfl rfl ?_
            refine L_run (.plain rfl) rfl rfl (r_pick_f (v := .bool _) rfl rfl) ?_
            refine L_run (.plain rfl) rfl rfl (r_move (v := .bool _) rfl) ?_
            refine L_pass rfl rfl rfl rfl rfl ?_
            refine L_pass rfl rfl rfl rfl rfl ?_
            refine L_pass rfl rfl rfl rfl rfl ?_
            refine L_run (.plain rfl) rfl rfl (r_pick_f (v := .bool _) rfl rfl) ?_
            refine L_run (.plain rfl) rfl rfl (r_move (v := .bool _) rfl) ?_
            refine L_pass rfl rfl rfl rfl rfl ?_
            refine L_pass rfl rfl rfl rfl rfl ?_
            refine L_pass rfl rfl rfl rfl rfl ?_
            refine L_run (.plain rfl) rfl rfl (r_pick_f (v := .bool _) rfl rfl) ?_
            refine L_run (.plain rfl) rfl rfl (r_move (v := .bool _) rfl) ?_
            refine L_pass rfl rfl rfl rfl rfl ?_
            refine L_pass rfl rfl rfl rfl rfl ?_
            refine L_pass rfl rfl rfl rfl rfl ?_
            refine L_run (.plain rfl) rfl rfl (r_pick_f (v := .bool _) rfl rfl) ?_
            refine L_run (.plain rfl) rfl rfl (r_assign (v := .bool _) rfl) ?_
            refine L_nil ?_
            refine ⟨trivial, _, rfl, ?_⟩
            refine ⟨?_, by (repeat (first | exact Ch.refl _ | assumption | (refine Ch.fresh ?_ (by assumption) (by intro i hi he; first | exact he | exact (not_no he).elim | (exfalso; have he2 : i = _ := he; omega)))))⟩
            have hmi := member_iff m.method
            unfold rightP
            first
              | (simp only [decide_eq_true_eq] at *
                 constructor
                 · intro hh; first | (exact ⟨by omega, by omega, .inl ⟨by omega, by omega, by omega, by (first | exact (hmi.1 (by assumption)).1 | simp_all), by (first | exact (hmi.1 (by assumption)).2 | simp_all), by omega⟩⟩) | (exact ⟨by omega, by omega, .inr ⟨by omega, by omega, by omega, by assumption, by omega, by omega⟩⟩)
                 · rintro ⟨k1, k2, ⟨k3, k4, k5, k6, k7, k8⟩ | ⟨k3, k4, k5, k6, k7, k8⟩⟩ <;> omega)
              | (constructor
                 · intro hh; exact absurd hh (by decide)
                 · rintro ⟨k1, k2, ⟨k3, k4, k5, k6, k7, k8⟩ | ⟨k3, k4, k5, k6, k7, k8⟩⟩ <;> first | omega | contradiction | (have hmm := hmi.2 ⟨k6, k7⟩; simp_all) | simp_all)
        · have hok0 : ¬ (0 < m.life ∧ 0 < m.seq) := fun h => by have := hok.2 h; rw [this] at h43; cases h43
          refine L_pass rfl rfl rfl rfl rfl ?_
          refine L_pass rfl rfl rfl rfl rfl ?_
          refine L_pass rfl rfl rfl rfl rfl ?_
          refine L_run (.plain rfl) rfl rfl (r_pick_f (v := .bool _) rfl rfl) ?_
          refine L_run (.plain rfl) rfl rfl (r_move (v := .bool _) rfl) ?_
          refine L_pass rfl rfl rfl rfl rfl ?_
          refine L_pass rfl rfl rfl rfl rfl ?_
          refine L_pass rfl rfl rfl rfl rfl ?_
          refine L_run (.plain rfl) rfl rfl (r_pick_f (v := .bool _) rfl rfl) ?_
          refine L_run (.plain rfl) rfl rfl (r_move (v := .bool _) rfl) ?_
          refine L_pass rfl rfl rfl rfl rfl ?_
          refine L_pass rfl rfl rfl rfl rfl ?_
          refine L_pass rfl rfl rfl rfl rfl ?_
          refine L_run (.plain rfl) rfl rfl (r_pick_f (v := .bool _) rfl rfl) ?_
          refine L_run (.plain rfl) rfl rfl (r_move (v := .bool _) rfl) ?_
          refine L_pass rfl rfl rfl rfl rfl ?_
          refine L_pass rfl rfl rfl rfl rfl ?_
          refine L_pass rfl rfl rfl rfl rfl ?_
          refine L_run (.plain rfl) rfl rfl (r_pick_f (v := .bool _) rfl rfl) ?_
          refine L_run (.plain rfl) rfl rfl (r_move (v := .bool _) rfl) ?_
          refine L_pass rfl rfl rfl rfl rfl ?_
          refine L_pass rfl rfl rfl rfl rfl ?_
          refine L_pass rfl rfl rfl rfl rfl ?_
          refine L_run (.plain rfl) rfl rfl (r_pick_f (v := .bool _) rfl rfl) ?_
          refine L_run (.plain rfl) rfl rfl (r_move (v := .bool _) rfl) ?_
          refine L_pass rfl rfl rfl rfl rfl ?_
          refine L_pass rfl rfl rfl rfl rfl ?_
          refine L_pass rfl rfl rfl rfl rfl ?_
          refine L_run (.plain rfl) rfl rfl (r_pick_f (v := .bool _) rfl rfl) ?_
          refine L_run (.plain rfl) rfl rfl (r_assign (v := .bool _) rfl) ?_
          refine L_nil ?_
          refine ⟨trivial, _, rfl, ?_⟩
          refine ⟨?_, by (repeat (first | exact Ch.refl _ | assumption | (refine Ch.fresh ?_ (by assumption) (by intro i hi he; first | exact he | exact (not_no he).elim | (exfalso; have he2 : i = _ := he; omega)))))⟩
          have hmi := member_iff m.method
          unfold rightP
          first
            | (simp only [decide_eq_true_eq] at *
               constructor
               · intro hh; first | (exact ⟨by omega, by omega, .inl ⟨by omega, by omega, by omega, by (first | exact (hmi.1 (by assumption)).1 | simp_all), by (first | exact (hmi.1 (by assumption)).2 | simp_all), by omega⟩⟩) | (exact ⟨by omega, by omega, .inr ⟨by omega, by omega, by omega, by assumption, by omega, by omega⟩⟩)
               · rintro ⟨k1, k2, ⟨k3, k4, k5, k6, k7, k8⟩ | ⟨k3, k4, k5, k6, k7, k8⟩⟩ <;> omega)
            | (constructor
               · intro hh; exact absurd hh (by decide)
               · rintro ⟨k1, k2, ⟨k3, k4, k5, k6, k7, k8⟩ | ⟨k3, k4, k5, k6, k7, k8⟩⟩ <;> first | omega | contradiction | (have hmm := hmi.2 ⟨k6, k7⟩; simp_all) | simp_all)
    rintro gct18 w4 ⟨ok2, hf3, hCt18⟩
    refine W_as 3 hf3 rfl ?_
    clear hf3
    obtain ⟨hok2, hnw⟩ := hCt18
    refine W_seq ?_
    refine W_seq ?_
    refine W_region ?_
    refine L_run (.plain rfl) rfl rfl (r_move (v := .bool _) rfl) ?_
    refine L_run (.plain rfl) rfl rfl (r_not rfl) ?_
    refine L_nil ?_
    refine W_bool rfl (fun h74 => ?_) (fun h74 => ?_)
    · have hno : ¬ rightP m := fun h => by rw [hok2.2 h] at h74; cases h74
      refine W_seq ?_
      refine W_region ?_
      refine L_run (.plain rfl) rfl rfl (r_assign (v := .int _ _) rfl) ?_
      refine L_nil ?_
      refine W_ret ?_
      refine ret1 (v := .int _ _) rfl rfl ?_
      first
        | exact ⟨by unfold checkC; rw [if_pos (by omega)], by (repeat (first | exact Ch.refl _ | assumption | (refine Ch.fresh ?_ (by assumption) (by intro i hi he; first | exact he | exact (not_no he).elim | (exfalso; have he2 : i = _ := he; omega)))))⟩
        | exact ⟨by unfold checkC; rw [if_neg (by omega), if_neg hno], by (repeat (first | exact Ch.refl _ | assumption | (refine Ch.fresh ?_ (by assumption) (by intro i hi he; first | exact he | exact (not_no he).elim | (exfalso; have he2 : i = _ := he; omega)))))⟩
        | exact ⟨by unfold checkC; rw [if_neg (by omega), if_pos hye], by (repeat (first | exact Ch.refl _ | assumption | (refine Ch.fresh ?_ (by assumption) (by intro i hi he; first | exact he | exact (not_no he).elim | (exfalso; have he2 : i = _ := he; omega)))))⟩
    · have hye : rightP m := hok2.1 (by simpa using h74)
      refine W_skip ?_
      refine W_seq ?_
      refine W_region ?_
      refine L_run (.plain rfl) rfl rfl (r_assign (v := .int _ _) rfl) ?_
      refine L_nil ?_
      refine W_ret ?_
      refine ret1 (v := .int _ _) rfl rfl ?_
      first
        | exact ⟨by unfold checkC; rw [if_pos (by omega)], by (repeat (first | exact Ch.refl _ | assumption | (refine Ch.fresh ?_ (by assumption) (by intro i hi he; first | exact he | exact (not_no he).elim | (exfalso; have he2 : i = _ := he; omega)))))⟩
        | exact ⟨by unfold checkC; rw [if_neg (by omega), if_neg hno], by (repeat (first | exact Ch.refl _ | assumption | (refine Ch.fresh ?_ (by assumption) (by intro i hi he; first | exact he | exact (not_no he).elim | (exfalso; have he2 : i = _ := he; omega)))))⟩
        | exact ⟨by unfold checkC; rw [if_neg (by omega), if_pos hye], by (repeat (first | exact Ch.refl _ | assumption | (refine Ch.fresh ?_ (by assumption) (by intro i hi he; first | exact he | exact (not_no he).elim | (exfalso; have he2 : i = _ := he; omega)))))⟩
end Go.Proofs.Ythpclaoniljfbaa

