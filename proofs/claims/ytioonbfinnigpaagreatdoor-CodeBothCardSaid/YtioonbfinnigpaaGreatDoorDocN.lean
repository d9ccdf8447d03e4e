/- Names by the document; walked. -/
import Derived.Test.YtioonbfinnigpaaGreatDoorKind
namespace Go.Proofs.YtioonbfinnigpaaGreatDoor
open Go Go.RowKit
set_option linter.unusedVariables false
set_option maxRecDepth 100000
set_option linter.unusedSimpArgs false
theorem nm_step {i c : Nat} (h : ¬ (¬ ((97 ≤ c ∧ c ≤ 122) ∨ (65 ≤ c ∧ c ≤ 90)) ∧ (i = 0 ∨ c < 48 ∨ 57 < c))) : nameC (c : Int) ∧ (i = 0 → ¬ digitC (c : Int)) := by
  unfold nameC greatC smallC digitC
  omega
theorem nm_bad {i c : Nat} (h : ¬ ((97 ≤ c ∧ c ≤ 122) ∨ (65 ≤ c ∧ c ≤ 90)) ∧ (i = 0 ∨ c < 48 ∨ 57 < c)) (h1 : nameC (c : Int)) (h2 : i = 0 → ¬ digitC (c : Int)) : False := by
  unfold nameC greatC smallC digitC at h1
  unfold digitC at h2
  omega
theorem rname_walk (s : ByteArray) (w0 : World) (hs : s.size ≤ 1000000000) : Does Tryz.prog 71 #[.string s] w0 (fun r w' => r = .bool (decide (nameP s)) ∧ Nw w0 w') := by
  refine fn_of (n := 59) (args := [.string s]) Tryz.func71 rfl rfl rfl ?_
  refine W_seq ?_
  refine W_region ?_
  refine L_r (r_ab rfl) ?_
  refine L_nil ?_
  refine W_seq ?_
  refine W_seq ?_
  refine W_region ?_
  refine L_r (r_ai rfl) ?_
  refine L_nil ?_
  refine W_block ?_
  refine W_loopF [0] (fun mz_ f W => ∃ (i : Nat), f 3 = .int .i64 i ∧ (i ≤ s.size ∧ (∀ j, j < i → nameC (bat s j).toNat) ∧ (0 < i → ¬ digitC (bat s 0).toNat) ∧ Nw w0 W) ∧ mz_ = s.size - i) ?_ ?_
  · refine ⟨_, 0, rfl, ?_, rfl⟩
    exact ⟨by omega, fun j hj => absurd hj (by omega), fun h => absurd h (by omega), Ch.au⟩
  rintro m0 g0 w1 ⟨i, hf3, hR0, rfl⟩
  refine W_as 3 hf3 rfl ?_
  clear hf3
  obtain ⟨hi, hall, h0, hnw⟩ := hR0
  have hz := hnw.size
  refine W_seq ?_
  refine W_seq ?_
  refine W_region ?_
  refine L_r (r_mi rfl) ?_
  refine L_r (r_ms rfl) ?_
  refine L_r (r_lens Tryz.underlying9 rfl) ?_
  refine L_r (r_lss rfl rfl) ?_
  refine L_nil ?_
  refine W_if rfl (fun h8 => ?_) (fun h8 => ?_)
  · refine W_skip ?_
    refine W_seq ?_
    refine W_block ?_
    refine W_cutF [0, 3] (fun f W => f 4 = .bool (decide ((97 ≤ (bat s i).toNat ∧ (bat s i).toNat ≤ 122) ∨ (65 ≤ (bat s i).toNat ∧ (bat s i).toNat ≤ 90))) ∧ (W = w1)) ?_ ?_
    · refine W_region ?_
      refine L_r (r_ms rfl) ?_
      refine L_r (r_mi rfl) ?_
      refine L_r (r_indexs Tryz.underlying9 rfl rfl (by omega) (by omega) (by conv => lhs; (try simp only [Nat.mul_one, Nat.zero_add, Int.toNat_natCast, Int.toNat_zero, Int.reduceToNat, Nat.reduceMul, Nat.reduceAdd]))) ?_
      refine L_r (r_geq rfl rfl) ?_
      refine L_r (r_mb rfl) ?_
      refine L_case (d := 15) rfl (fun h15 => ?_) (fun h15 => ?_)
      · refine L_g (r_ms rfl) ?_
        refine L_g (r_mi rfl) ?_
        refine L_g (r_indexs Tryz.underlying9 rfl rfl (by omega) (by omega) (by conv => lhs; (try simp only [Nat.mul_one, Nat.zero_add, Int.toNat_natCast, Int.toNat_zero, Int.reduceToNat, Nat.reduceMul, Nat.reduceAdd]))) ?_
        refine L_g (r_leq rfl rfl) ?_
        refine L_r (r_pt rfl rfl) ?_
        refine L_r (r_mb rfl) ?_
        refine L_case (d := 21) rfl (fun h21 => ?_) (fun h21 => ?_)
        · refine L_ps ?_
          refine L_ps ?_
          refine L_ps ?_
          refine L_ps ?_
          refine L_ps ?_
          refine L_pu ?_
          refine L_pu ?_
          refine L_pu ?_
          refine L_pu ?_
          refine L_ps ?_
          refine L_r (r_pt rfl rfl) ?_
          refine L_r (r_ab rfl) ?_
          refine L_nil ?_
          refine ⟨⟨fx2, fx2, trivial⟩, (dec_t (by omega)), ?_⟩
          rfl
        · refine L_g (r_ms rfl) ?_
          refine L_g (r_mi rfl) ?_
          refine L_g (r_indexs Tryz.underlying9 rfl rfl (by omega) (by omega) (by conv => lhs; (try simp only [Nat.mul_one, Nat.zero_add, Int.toNat_natCast, Int.toNat_zero, Int.reduceToNat, Nat.reduceMul, Nat.reduceAdd]))) ?_
          refine L_g (r_geq rfl rfl) ?_
          refine L_g (r_mb rfl) ?_
          refine L_case (d := 26) rfl (fun h26 => ?_) (fun h26 => ?_)
          · refine L_g (r_ms rfl) ?_
            refine L_g (r_mi rfl) ?_
            refine L_g (r_indexs Tryz.underlying9 rfl rfl (by omega) (by omega) (by conv => lhs; (try simp only [Nat.mul_one, Nat.zero_add, Int.toNat_natCast, Int.toNat_zero, Int.reduceToNat, Nat.reduceMul, Nat.reduceAdd]))) ?_
            refine L_g (r_leq rfl rfl) ?_
            refine L_g (r_pt rfl rfl) ?_
            refine L_r (r_pf rfl rfl) ?_
            refine L_r (r_ab rfl) ?_
            refine L_nil ?_
            refine ⟨⟨fx2, fx2, trivial⟩, (dec_i (by omega)), ?_⟩
            rfl
          · refine L_ps ?_
            refine L_ps ?_
            refine L_ps ?_
            refine L_ps ?_
            refine L_g (r_pf rfl rfl) ?_
            refine L_r (r_pf rfl rfl) ?_
            refine L_r (r_ab rfl) ?_
            refine L_nil ?_
            refine ⟨⟨fx2, fx2, trivial⟩, (dec_f (by omega)), ?_⟩
            rfl
      · refine L_ps ?_
        refine L_ps ?_
        refine L_ps ?_
        refine L_ps ?_
        refine L_r (r_pf rfl rfl) ?_
        refine L_r (r_mb rfl) ?_
        refine L_g (r_ms rfl) ?_
        refine L_g (r_mi rfl) ?_
        refine L_g (r_indexs Tryz.underlying9 rfl rfl (by omega) (by omega) (by conv => lhs; (try simp only [Nat.mul_one, Nat.zero_add, Int.toNat_natCast, Int.toNat_zero, Int.reduceToNat, Nat.reduceMul, Nat.reduceAdd]))) ?_
        refine L_g (r_geq rfl rfl) ?_
        refine L_g (r_mb rfl) ?_
        refine L_case (d := 26) rfl (fun h26 => ?_) (fun h26 => ?_)
        · refine L_g (r_ms rfl) ?_
          refine L_g (r_mi rfl) ?_
          refine L_g (r_indexs Tryz.underlying9 rfl rfl (by omega) (by omega) (by conv => lhs; (try simp only [Nat.mul_one, Nat.zero_add, Int.toNat_natCast, Int.toNat_zero, Int.reduceToNat, Nat.reduceMul, Nat.reduceAdd]))) ?_
          refine L_g (r_leq rfl rfl) ?_
          refine L_g (r_pt rfl rfl) ?_
          refine L_r (r_pf rfl rfl) ?_
          refine L_r (r_ab rfl) ?_
          refine L_nil ?_
          refine ⟨⟨fx2, fx2, trivial⟩, (dec_i (by omega)), ?_⟩
          rfl
        · refine L_ps ?_
          refine L_ps ?_
          refine L_ps ?_
          refine L_ps ?_
          refine L_g (r_pf rfl rfl) ?_
          refine L_r (r_pf rfl rfl) ?_
          refine L_r (r_ab rfl) ?_
          refine L_nil ?_
          refine ⟨⟨fx2, fx2, trivial⟩, (dec_f (by omega)), ?_⟩
          rfl
    rintro gcr4 w2 ⟨hf4, hCr4⟩
    refine W_as 4 hf4 rfl ?_
    clear hf4
    subst hCr4
    refine W_cutF [0, 3] (fun f W => f 50 = .bool (decide (¬ ((97 ≤ (bat s i).toNat ∧ (bat s i).toNat ≤ 122) ∨ (65 ≤ (bat s i).toNat ∧ (bat s i).toNat ≤ 90)) ∧ (i = 0 ∨ (bat s i).toNat < 48 ∨ 57 < (bat s i).toNat))) ∧ (W = w2)) ?_ ?_
    · refine W_region ?_
      refine L_r (r_mb rfl) ?_
      refine L_r (r_notp rfl) ?_
      refine L_r (r_mb rfl) ?_
      refine L_case (d := 35) rfl (fun h35 => ?_) (fun h35 => ?_)
      · refine L_g (r_mi rfl) ?_
        refine L_g (r_eql rfl rfl) ?_
        refine L_g (r_mb rfl) ?_
        refine L_case (d := 38) rfl (fun h38 => ?_) (fun h38 => ?_)
        · refine L_ps ?_
          refine L_ps ?_
          refine L_ps ?_
          refine L_ps ?_
          refine L_g (r_pt rfl rfl) ?_
          refine L_g (r_mb rfl) ?_
          refine L_ps ?_
          refine L_ps ?_
          refine L_ps ?_
          refine L_ps ?_
          refine L_g (r_pt rfl rfl) ?_
          refine L_r (r_pt rfl rfl) ?_
          refine L_nil ?_
          refine ⟨⟨fx2, fx2, trivial⟩, (dec_t (by omega)), ?_⟩
          rfl
        · refine L_g (r_ms rfl) ?_
          refine L_g (r_mi rfl) ?_
          refine L_g (r_indexs Tryz.underlying9 rfl rfl (by omega) (by omega) (by conv => lhs; (try simp only [Nat.mul_one, Nat.zero_add, Int.toNat_natCast, Int.toNat_zero, Int.reduceToNat, Nat.reduceMul, Nat.reduceAdd]))) ?_
          refine L_g (r_lss rfl rfl) ?_
          refine L_g (r_pf rfl rfl) ?_
          refine L_g (r_mb rfl) ?_
          refine L_case (d := 44) rfl (fun h44 => ?_) (fun h44 => ?_)
          · refine L_ps ?_
            refine L_ps ?_
            refine L_ps ?_
            refine L_ps ?_
            refine L_g (r_pt rfl rfl) ?_
            refine L_r (r_pt rfl rfl) ?_
            refine L_nil ?_
            refine ⟨⟨fx2, fx2, trivial⟩, (dec_t (by omega)), ?_⟩
            rfl
          · refine L_g (r_ms rfl) ?_
            refine L_g (r_mi rfl) ?_
            refine L_g (r_indexs Tryz.underlying9 rfl rfl (by omega) (by omega) (by conv => lhs; (try simp only [Nat.mul_one, Nat.zero_add, Int.toNat_natCast, Int.toNat_zero, Int.reduceToNat, Nat.reduceMul, Nat.reduceAdd]))) ?_
            refine L_g (r_gtr rfl rfl) ?_
            refine L_g (r_pf rfl rfl) ?_
            refine L_r (r_pt rfl rfl) ?_
            refine L_nil ?_
            refine ⟨⟨fx2, fx2, trivial⟩, (dec_i (by omega)), ?_⟩
            rfl
      · refine L_ps ?_
        refine L_ps ?_
        refine L_ps ?_
        refine L_pu ?_
        refine L_pu ?_
        refine L_pu ?_
        refine L_pu ?_
        refine L_ps ?_
        refine L_ps ?_
        refine L_pu ?_
        refine L_pu ?_
        refine L_pu ?_
        refine L_pu ?_
        refine L_ps ?_
        refine L_r (r_pf rfl rfl) ?_
        refine L_nil ?_
        refine ⟨⟨fx2, fx2, trivial⟩, (dec_f (by omega)), ?_⟩
        rfl
    rintro gcr5 w3 ⟨hf50, hCr5⟩
    refine W_as 50 hf50 rfl ?_
    clear hf50
    subst hCr5
    refine W_if rfl (fun h50 => ?_) (fun h50 => ?_)
    · refine W_seq ?_
      refine W_region ?_
      refine L_r (r_ab rfl) ?_
      refine L_nil ?_
      refine W_ret ?_
      refine ret1 (v := .bool _) rfl rfl ?_
      refine ⟨?_, Ch.au⟩
      first
      | exact congrArg Value.bool (decide_eq_false (fun hp => nm_bad h50 (hp.2.2.2 i (by omega)) (fun h => by subst h; exact hp.2.2.1))).symm
      | exact congrArg Value.bool (decide_eq_decide.2 ⟨fun h => ⟨by omega, by omega, h0 (by omega), fun j hj => hall j (by omega)⟩, fun h => by have := h.2.1; omega⟩)
      | exact congrArg Value.bool (decide_eq_false (fun hp => by have := hp.1; omega)).symm
    · refine W_skip ?_
      refine W_region ?_
      refine L_r (r_mi rfl) ?_
      refine L_r (r_add rfl rfl (by first | exact wr_i64 (by omega) | rfl)) ?_
      refine L_r (r_ai rfl) ?_
      refine L_nil ?_
      refine ⟨⟨fx2, trivial⟩, _, ?_, i + 1, rfl, ?_, rfl⟩
      · omega
      have hst := nm_step h50
      refine ⟨by omega, fun j hj => ?_, fun _ => ?_, Ch.au⟩
      · rcases Nat.lt_or_ge j i with h | h
        · exact hall j h
        · have e : j = i := by omega
          subst e; exact hst.1
      · rcases Nat.eq_zero_or_pos i with h | h
        · subst h; exact hst.2 rfl
        · exact h0 h
  · refine W_exit ?_
    repeat (first | refine blk_hit ?_ | refine blk_miss rfl ?_)
    refine W_seq ?_
    refine W_region ?_
    refine L_r (r_ms rfl) ?_
    refine L_r (r_lens Tryz.underlying9 rfl) ?_
    refine L_r (r_geq rfl rfl) ?_
    refine L_r (r_mb rfl) ?_
    refine L_case (d := 54) rfl (fun h54 => ?_) (fun h54 => ?_)
    · refine L_g (r_ms rfl) ?_
      refine L_g (r_lens Tryz.underlying9 rfl) ?_
      refine L_g (r_leq rfl rfl) ?_
      refine L_r (r_pt rfl rfl) ?_
      refine L_r (r_ab rfl) ?_
      refine L_nil ?_
      refine W_ret ?_
      refine ret1 (v := .bool _) rfl rfl ?_
      refine ⟨?_, Ch.au⟩
      first
      | exact congrArg Value.bool (decide_eq_false (fun hp => nm_bad h50 (hp.2.2.2 i (by omega)) (fun h => by subst h; exact hp.2.2.1))).symm
      | exact congrArg Value.bool (decide_eq_decide.2 ⟨fun h => ⟨by omega, by omega, h0 (by omega), fun j hj => hall j (by omega)⟩, fun h => by have := h.2.1; omega⟩)
      | exact congrArg Value.bool (decide_eq_false (fun hp => by have := hp.1; omega)).symm
    · refine L_ps ?_
      refine L_ps ?_
      refine L_ps ?_
      refine L_r (r_pf rfl rfl) ?_
      refine L_r (r_ab rfl) ?_
      refine L_nil ?_
      refine W_ret ?_
      refine ret1 (v := .bool _) rfl rfl ?_
      refine ⟨?_, Ch.au⟩
      first
      | exact congrArg Value.bool (decide_eq_false (fun hp => nm_bad h50 (hp.2.2.2 i (by omega)) (fun h => by subst h; exact hp.2.2.1))).symm
      | exact congrArg Value.bool (decide_eq_decide.2 ⟨fun h => ⟨by omega, by omega, h0 (by omega), fun j hj => hall j (by omega)⟩, fun h => by have := h.2.1; omega⟩)
      | exact congrArg Value.bool (decide_eq_false (fun hp => by have := hp.1; omega)).symm
theorem mem_iff {s : ByteArray} (h : nameP s) : (97 ≤ ((bat s 0).toNat : Int)) ↔ (nameP s ∧ ¬ classP s) := by
  obtain ⟨h1, h2, h3, h4⟩ := id h
  have h5 := h4 0 h1
  unfold nameC greatC smallC digitC at h5
  unfold digitC at h3
  constructor
  · intro h6
    refine ⟨h, fun hc => ?_⟩
    have h7 := hc.2
    unfold greatC at h7
    omega
  · intro h6
    have h7 : ¬ greatC (bat s 0).toNat := fun hg => h6.2 ⟨h, hg⟩
    unfold greatC at h7
    omega
theorem rmember_walk (s : ByteArray) (w0 : World) (hs : s.size ≤ 1000000000) : Does Tryz.prog 72 #[.string s] w0 (fun r w' => r = .bool (decide (nameP s ∧ ¬ classP s)) ∧ Nw w0 w') := by
  refine fn_of (n := 10) (args := [.string s]) Tryz.func72 rfl rfl rfl ?_
  refine W_seq ?_
  refine W_region ?_
  refine L_r (r_ab rfl) ?_
  refine L_nil ?_
  refine W_seq ?_
  refine W_region ?_
  refine L_r (r_ms rfl) ?_
  refine L_call (.plain rfl) rfl rfl (r_call Tryz.func71 rfl rfl rfl (by rfl)) (rname_walk s _ hs) ?_
  rintro v4 w1 ⟨rfl, c1⟩
  have hz1 := c1.size
  refine L_r (r_mb rfl) ?_
  refine L_caseb (d := 5) rfl (fun h5 => ?_) (fun h5 => ?_)
  · have hnp := of_decide_eq_true h5
    have hsp := hnp.1
    refine L_g (r_ms rfl) ?_
    refine L_g (r_indexs Tryz.underlying9 rfl rfl (by omega) (by omega) (by conv => lhs; (try simp only [Nat.mul_one, Nat.zero_add, Int.toNat_natCast, Int.toNat_zero, Int.reduceToNat, Nat.reduceMul, Nat.reduceAdd]))) ?_
    refine L_g (r_geq rfl rfl) ?_
    refine L_r (r_pt rfl rfl) ?_
    refine L_r (r_ab rfl) ?_
    refine L_nil ?_
    refine W_ret ?_
    refine ret1 (v := .bool _) rfl rfl ?_
    refine ⟨?_, Ch.au⟩
    first
    | exact congrArg Value.bool (decide_eq_decide.2 (mem_iff hnp))
    | exact congrArg Value.bool (decide_eq_false (fun hp => hnp hp.1)).symm
  · have hnp := of_decide_eq_false h5
    refine L_ps ?_
    refine L_ps ?_
    refine L_ps ?_
    refine L_r (r_pf rfl rfl) ?_
    refine L_r (r_ab rfl) ?_
    refine L_nil ?_
    refine W_ret ?_
    refine ret1 (v := .bool _) rfl rfl ?_
    refine ⟨?_, Ch.au⟩
    first
    | exact congrArg Value.bool (decide_eq_decide.2 (mem_iff hnp))
    | exact congrArg Value.bool (decide_eq_false (fun hp => hnp hp.1)).symm
end Go.Proofs.YtioonbfinnigpaaGreatDoor

