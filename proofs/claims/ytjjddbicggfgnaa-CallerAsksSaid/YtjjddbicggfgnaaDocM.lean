/- Names and messages by the document; walked. -/
import Derived.Test.YtjjddbicggfgnaaMsgEq
namespace Go.Proofs.Ytjjddbicggfgnaa
open Go Go.RowKit
set_option linter.unusedVariables false
set_option maxRecDepth 100000
set_option linter.unusedSimpArgs false
theorem nm_step {i c : Nat} (h : ¬ (¬ ((97 ≤ c ∧ c ≤ 122) ∨ (65 ≤ c ∧ c ≤ 90)) ∧ (i = 0 ∨ c < 48 ∨ 57 < c))) : nameC (c : Int) ∧ (i = 0 → ¬ digitC (c : Int)) := by
  unfold nameC greatC smallC digitC
  omega
theorem nm_bad {i c : Nat} (h : ¬ ((97 ≤ c ∧ c ≤ 122) ∨ (65 ≤ c ∧ c ≤ 90)) ∧ (i = 0 ∨ c < 48 ∨ 57 < c)) (h1 : nameC (c : Int)) (h2 : i = 0 → ¬ digitC (c : Int)) : False := by
  unfold nameC greatC smallC digitC at h1
  unfold digitC at h2
  omega
theorem rname_walk (s : ByteArray) (w0 : World) (hs : s.size ≤ 1000000000) : Does Try.prog 43 #[.string s] w0 (fun r w' => r = .bool (decide (nameP s)) ∧ Nw w0 w') := by
  refine fn_of (n := 59) (args := [.string s]) Try.func43 rfl rfl rfl ?_
  refine W_seq ?_
  refine W_region ?_
  refine L_r (r_ab rfl) ?_
  refine L_nil ?_
  refine W_seq ?_
  refine W_seq ?_
  refine W_region ?_
  refine L_r (r_ai rfl) ?_
  refine L_nil ?_
  refine W_block ?_
  refine W_loopF [0] (fun mz_ f W => ∃ (i : Nat), f 3 = .int .i64 i ∧ (i ≤ s.size ∧ (∀ j, j < i → nameC (bat s j).toNat) ∧ (0 < i → ¬ digitC (bat s 0).toNat) ∧ Nw w0 W) ∧ mz_ = s.size - i) ?_ ?_
  · refine ⟨_, 0, rfl, ?_, rfl⟩
    exact ⟨by omega, fun j hj => absurd hj (by omega), fun h => absurd h (by omega), Ch.au⟩
  rintro m0 g0 w1 ⟨i, hf3, hR0, rfl⟩
  refine W_as 3 hf3 rfl ?_
  clear hf3
  obtain ⟨hi, hall, h0, hnw⟩ := hR0
  have hz := hnw.size
  refine W_seq ?_
  refine W_seq ?_
  refine W_region ?_
  refine L_r (r_mi rfl) ?_
  refine L_r (r_ms rfl) ?_
  refine L_r (r_lens Try.underlying9 rfl) ?_
  refine L_r (r_lss rfl rfl) ?_
  refine L_nil ?_
  refine W_if rfl (fun h8 => ?_) (fun h8 => ?_)
  · refine W_skip ?_
    refine W_seq ?_
    refine W_block ?_
    refine W_cutF [0, 3] (fun f W => f 4 = .bool (decide ((97 ≤ (bat s i).toNat ∧ (bat s i).toNat ≤ 122) ∨ (65 ≤ (bat s i).toNat ∧ (bat s i).toNat ≤ 90))) ∧ (W = w1)) ?_ ?_
    · refine W_region ?_
      refine L_r (r_ms rfl) ?_
      refine L_r (r_mi rfl) ?_
      refine L_r (r_indexs Try.underlying9 rfl rfl (by omega) (by omega) (by conv => lhs; (try simp only [Nat.mul_one, Nat.zero_add, Int.toNat_natCast, Int.toNat_zero, Int.reduceToNat, Nat.reduceMul, Nat.reduceAdd]))) ?_
      refine L_r (r_geq rfl rfl) ?_
      refine L_r (r_mb rfl) ?_
      refine L_case (d := 15) rfl (fun h15 => ?_) (fun h15 => ?_)
      · refine L_g (r_ms rfl) ?_
        refine L_g (r_mi rfl) ?_
        refine L_g (r_indexs Try.underlying9 rfl rfl (by omega) (by omega) (by conv => lhs; (try simp only [Nat.mul_one, Nat.zero_add, Int.toNat_natCast, Int.toNat_zero, Int.reduceToNat, Nat.reduceMul, Nat.reduceAdd]))) ?_
        refine L_g (r_leq rfl rfl) ?_
        refine L_r (r_pt rfl rfl) ?_
        refine L_r (r_mb rfl) ?_
        refine L_case (d := 21) rfl (fun h21 => ?_) (fun h21 => ?_)
        · refine L_ps ?_
          refine L_ps ?_
          refine L_ps ?_
          refine L_ps ?_
          refine L_ps ?_
          refine L_pu ?_
          refine L_pu ?_
          refine L_pu ?_
          refine L_pu ?_
          refine L_ps ?_
          refine L_r (r_pt rfl rfl) ?_
          refine L_r (r_ab rfl) ?_
          refine L_nil ?_
          refine ⟨⟨rfl, rfl, trivial⟩, (dec_t (by omega)), ?_⟩
          rfl
        · refine L_g (r_ms rfl) ?_
          refine L_g (r_mi rfl) ?_
          refine L_g (r_indexs Try.underlying9 rfl rfl (by omega) (by omega) (by conv => lhs; (try simp only [Nat.mul_one, Nat.zero_add, Int.toNat_natCast, Int.toNat_zero, Int.reduceToNat, Nat.reduceMul, Nat.reduceAdd]))) ?_
          refine L_g (r_geq rfl rfl) ?_
          refine L_g (r_mb rfl) ?_
          refine L_case (d := 26) rfl (fun h26 => ?_) (fun h26 => ?_)
          · refine L_g (r_ms rfl) ?_
            refine L_g (r_mi rfl) ?_
            refine L_g (r_indexs Try.underlying9 rfl rfl (by omega) (by omega) (by conv => lhs; (try simp only [Nat.mul_one, Nat.zero_add, Int.toNat_natCast, Int.toNat_zero, Int.reduceToNat, Nat.reduceMul, Nat.reduceAdd]))) ?_
            refine L_g (r_leq rfl rfl) ?_
            refine L_g (r_pt rfl rfl) ?_
            refine L_r (r_pf rfl rfl) ?_
            refine L_r (r_ab rfl) ?_
            refine L_nil ?_
            refine ⟨⟨rfl, rfl, trivial⟩, (dec_i (by omega)), ?_⟩
            rfl
          · refine L_ps ?_
            refine L_ps ?_
            refine L_ps ?_
            refine L_ps ?_
            refine L_g (r_pf rfl rfl) ?_
            refine L_r (r_pf rfl rfl) ?_
            refine L_r (r_ab rfl) ?_
            refine L_nil ?_
            refine ⟨⟨rfl, rfl, trivial⟩, (dec_f (by omega)), ?_⟩
            rfl
      · refine L_ps ?_
        refine L_ps ?_
        refine L_ps ?_
        refine L_ps ?_
        refine L_r (r_pf rfl rfl) ?_
        refine L_r (r_mb rfl) ?_
        refine L_g (r_ms rfl) ?_
        refine L_g (r_mi rfl) ?_
        refine L_g (r_indexs Try.underlying9 rfl rfl (by omega) (by omega) (by conv => lhs; (try simp only [Nat.mul_one, Nat.zero_add, Int.toNat_natCast, Int.toNat_zero, Int.reduceToNat, Nat.reduceMul, Nat.reduceAdd]))) ?_
        refine L_g (r_geq rfl rfl) ?_
        refine L_g (r_mb rfl) ?_
        refine L_case (d := 26) rfl (fun h26 => ?_) (fun h26 => ?_)
        · refine L_g (r_ms rfl) ?_
          refine L_g (r_mi rfl) ?_
          refine L_g (r_indexs Try.underlying9 rfl rfl (by omega) (by omega) (by conv => lhs; (try simp only [Nat.mul_one, Nat.zero_add, Int.toNat_natCast, Int.toNat_zero, Int.reduceToNat, Nat.reduceMul, Nat.reduceAdd]))) ?_
          refine L_g (r_leq rfl rfl) ?_
          refine L_g (r_pt rfl rfl) ?_
          refine L_r (r_pf rfl rfl) ?_
          refine L_r (r_ab rfl) ?_
          refine L_nil ?_
          refine ⟨⟨rfl, rfl, trivial⟩, (dec_i (by omega)), ?_⟩
          rfl
        · refine L_ps ?_
          refine L_ps ?_
          refine L_ps ?_
          refine L_ps ?_
          refine L_g (r_pf rfl rfl) ?_
          refine L_r (r_pf rfl rfl) ?_
          refine L_r (r_ab rfl) ?_
          refine L_nil ?_
          refine ⟨⟨rfl, rfl, trivial⟩, (dec_f (by omega)), ?_⟩
          rfl
    rintro gcr4 w2 ⟨hf4, hCr4⟩
    refine W_as 4 hf4 rfl ?_
    clear hf4
    subst hCr4
    refine W_cutF [0, 3] (fun f W => f 50 = .bool (decide (¬ ((97 ≤ (bat s i).toNat ∧ (bat s i).toNat ≤ 122) ∨ (65 ≤ (bat s i).toNat ∧ (bat s i).toNat ≤ 90)) ∧ (i = 0 ∨ (bat s i).toNat < 48 ∨ 57 < (bat s i).toNat))) ∧ (W = w2)) ?_ ?_
    · refine W_region ?_
      refine L_r (r_mb rfl) ?_
      refine L_r (r_notp rfl) ?_
      refine L_r (r_mb rfl) ?_
      refine L_case (d := 35) rfl (fun h35 => ?_) (fun h35 => ?_)
      · refine L_g (r_mi rfl) ?_
        refine L_g (r_eql rfl rfl) ?_
        refine L_g (r_mb rfl) ?_
        refine L_case (d := 38) rfl (fun h38 => ?_) (fun h38 => ?_)
        · refine L_ps ?_
          refine L_ps ?_
          refine L_ps ?_
          refine L_ps ?_
          refine L_g (r_pt rfl rfl) ?_
          refine L_g (r_mb rfl) ?_
          refine L_ps ?_
          refine L_ps ?_
          refine L_ps ?_
          refine L_ps ?_
          refine L_g (r_pt rfl rfl) ?_
          refine L_r (r_pt rfl rfl) ?_
          refine L_nil ?_
          refine ⟨⟨rfl, rfl, trivial⟩, (dec_t (by omega)), ?_⟩
          rfl
        · refine L_g (r_ms rfl) ?_
          refine L_g (r_mi rfl) ?_
          refine L_g (r_indexs Try.underlying9 rfl rfl (by omega) (by omega) (by conv => lhs; (try simp only [Nat.mul_one, Nat.zero_add, Int.toNat_natCast, Int.toNat_zero, Int.reduceToNat, Nat.reduceMul, Nat.reduceAdd]))) ?_
          refine L_g (r_lss rfl rfl) ?_
          refine L_g (r_pf rfl rfl) ?_
          refine L_g (r_mb rfl) ?_
          refine L_case (d := 44) rfl (fun h44 => ?_) (fun h44 => ?_)
          · refine L_ps ?_
            refine L_ps ?_
            refine L_ps ?_
            refine L_ps ?_
            refine L_g (r_pt rfl rfl) ?_
            refine L_r (r_pt rfl rfl) ?_
            refine L_nil ?_
            refine ⟨⟨rfl, rfl, trivial⟩, (dec_t (by omega)), ?_⟩
            rfl
          · refine L_g (r_ms rfl) ?_
            refine L_g (r_mi rfl) ?_
            refine L_g (r_indexs Try.underlying9 rfl rfl (by omega) (by omega) (by conv => lhs; (try simp only [Nat.mul_one, Nat.zero_add, Int.toNat_natCast, Int.toNat_zero, Int.reduceToNat, Nat.reduceMul, Nat.reduceAdd]))) ?_
            refine L_g (r_gtr rfl rfl) ?_
            refine L_g (r_pf rfl rfl) ?_
            refine L_r (r_pt rfl rfl) ?_
            refine L_nil ?_
            refine ⟨⟨rfl, rfl, trivial⟩, (dec_i (by omega)), ?_⟩
            rfl
      · refine L_ps ?_
        refine L_ps ?_
        refine L_ps ?_
        refine L_pu ?_
        refine L_pu ?_
        refine L_pu ?_
        refine L_pu ?_
        refine L_ps ?_
        refine L_ps ?_
        refine L_pu ?_
        refine L_pu ?_
        refine L_pu ?_
        refine L_pu ?_
        refine L_ps ?_
        refine L_r (r_pf rfl rfl) ?_
        refine L_nil ?_
        refine ⟨⟨rfl, rfl, trivial⟩, (dec_f (by omega)), ?_⟩
        rfl
    rintro gcr5 w3 ⟨hf50, hCr5⟩
    refine W_as 50 hf50 rfl ?_
    clear hf50
    subst hCr5
    refine W_if rfl (fun h50 => ?_) (fun h50 => ?_)
    · refine W_seq ?_
      refine W_region ?_
      refine L_r (r_ab rfl) ?_
      refine L_nil ?_
      refine W_ret ?_
      refine ret1 (v := .bool _) rfl rfl ?_
      refine ⟨?_, Ch.au⟩
      first
      | exact congrArg Value.bool (decide_eq_false (fun hp => nm_bad h50 (hp.2.2.2 i (by omega)) (fun h => by subst h; exact hp.2.2.1))).symm
      | exact congrArg Value.bool (decide_eq_decide.2 ⟨fun h => ⟨by omega, by omega, h0 (by omega), fun j hj => hall j (by omega)⟩, fun h => by have := h.2.1; omega⟩)
      | exact congrArg Value.bool (decide_eq_false (fun hp => by have := hp.1; omega)).symm
    · refine W_skip ?_
      refine W_region ?_
      refine L_r (r_mi rfl) ?_
      refine L_r (r_add rfl rfl (by first | exact wr_i64 (by omega) | rfl)) ?_
      refine L_r (r_ai rfl) ?_
      refine L_nil ?_
      refine ⟨⟨rfl, trivial⟩, _, ?_, i + 1, rfl, ?_, rfl⟩
      · omega
      have hst := nm_step h50
      refine ⟨by omega, fun j hj => ?_, fun _ => ?_, Ch.au⟩
      · rcases Nat.lt_or_ge j i with h | h
        · exact hall j h
        · have e : j = i := by omega
          subst e; exact hst.1
      · rcases Nat.eq_zero_or_pos i with h | h
        · subst h; exact hst.2 rfl
        · exact h0 h
  · refine W_exit ?_
    repeat (first | refine blk_hit ?_ | refine blk_miss rfl ?_)
    refine W_seq ?_
    refine W_region ?_
    refine L_r (r_ms rfl) ?_
    refine L_r (r_lens Try.underlying9 rfl) ?_
    refine L_r (r_geq rfl rfl) ?_
    refine L_r (r_mb rfl) ?_
    refine L_case (d := 54) rfl (fun h54 => ?_) (fun h54 => ?_)
    · refine L_g (r_ms rfl) ?_
      refine L_g (r_lens Try.underlying9 rfl) ?_
      refine L_g (r_leq rfl rfl) ?_
      refine L_r (r_pt rfl rfl) ?_
      refine L_r (r_ab rfl) ?_
      refine L_nil ?_
      refine W_ret ?_
      refine ret1 (v := .bool _) rfl rfl ?_
      refine ⟨?_, Ch.au⟩
      first
      | exact congrArg Value.bool (decide_eq_false (fun hp => nm_bad h50 (hp.2.2.2 i (by omega)) (fun h => by subst h; exact hp.2.2.1))).symm
      | exact congrArg Value.bool (decide_eq_decide.2 ⟨fun h => ⟨by omega, by omega, h0 (by omega), fun j hj => hall j (by omega)⟩, fun h => by have := h.2.1; omega⟩)
      | exact congrArg Value.bool (decide_eq_false (fun hp => by have := hp.1; omega)).symm
    · refine L_ps ?_
      refine L_ps ?_
      refine L_ps ?_
      refine L_r (r_pf rfl rfl) ?_
      refine L_r (r_ab rfl) ?_
      refine L_nil ?_
      refine W_ret ?_
      refine ret1 (v := .bool _) rfl rfl ?_
      refine ⟨?_, Ch.au⟩
      first
      | exact congrArg Value.bool (decide_eq_false (fun hp => nm_bad h50 (hp.2.2.2 i (by omega)) (fun h => by subst h; exact hp.2.2.1))).symm
      | exact congrArg Value.bool (decide_eq_decide.2 ⟨fun h => ⟨by omega, by omega, h0 (by omega), fun j hj => hall j (by omega)⟩, fun h => by have := h.2.1; omega⟩)
      | exact congrArg Value.bool (decide_eq_false (fun hp => by have := hp.1; omega)).symm
theorem mem_iff {s : ByteArray} (h : nameP s) : (97 ≤ ((bat s 0).toNat : Int)) ↔ (nameP s ∧ ¬ classP s) := by
  obtain ⟨h1, h2, h3, h4⟩ := id h
  have h5 := h4 0 h1
  unfold nameC greatC smallC digitC at h5
  unfold digitC at h3
  constructor
  · intro h6
    refine ⟨h, fun hc => ?_⟩
    have h7 := hc.2
    unfold greatC at h7
    omega
  · intro h6
    have h7 : ¬ greatC (bat s 0).toNat := fun hg => h6.2 ⟨h, hg⟩
    unfold greatC at h7
    omega
theorem rmember_walk (s : ByteArray) (w0 : World) (hs : s.size ≤ 1000000000) : Does Try.prog 38 #[.string s] w0 (fun r w' => r = .bool (decide (nameP s ∧ ¬ classP s)) ∧ Nw w0 w') := by
  refine fn_of (n := 10) (args := [.string s]) Try.func38 rfl rfl rfl ?_
  refine W_seq ?_
  refine W_region ?_
  refine L_r (r_ab rfl) ?_
  refine L_nil ?_
  refine W_seq ?_
  refine W_region ?_
  refine L_r (r_ms rfl) ?_
  refine L_call (.plain rfl) rfl rfl (r_call Try.func43 rfl rfl rfl (by rfl)) (rname_walk s _ hs) ?_
  rintro v4 w1 ⟨rfl, c1⟩
  have hz1 := c1.size
  refine L_r (r_mb rfl) ?_
  refine L_caseb (d := 5) rfl (fun h5 => ?_) (fun h5 => ?_)
  · have hnp := of_decide_eq_true h5
    have hsp := hnp.1
    refine L_g (r_ms rfl) ?_
    refine L_g (r_indexs Try.underlying9 rfl rfl (by omega) (by omega) (by conv => lhs; (try simp only [Nat.mul_one, Nat.zero_add, Int.toNat_natCast, Int.toNat_zero, Int.reduceToNat, Nat.reduceMul, Nat.reduceAdd]))) ?_
    refine L_g (r_geq rfl rfl) ?_
    refine L_r (r_pt rfl rfl) ?_
    refine L_r (r_ab rfl) ?_
    refine L_nil ?_
    refine W_ret ?_
    refine ret1 (v := .bool _) rfl rfl ?_
    refine ⟨?_, Ch.au⟩
    first
    | exact congrArg Value.bool (decide_eq_decide.2 (mem_iff hnp))
    | exact congrArg Value.bool (decide_eq_false (fun hp => hnp hp.1)).symm
  · have hnp := of_decide_eq_false h5
    refine L_ps ?_
    refine L_ps ?_
    refine L_ps ?_
    refine L_r (r_pf rfl rfl) ?_
    refine L_r (r_ab rfl) ?_
    refine L_nil ?_
    refine W_ret ?_
    refine ret1 (v := .bool _) rfl rfl ?_
    refine ⟨?_, Ch.au⟩
    first
    | exact congrArg Value.bool (decide_eq_decide.2 (mem_iff hnp))
    | exact congrArg Value.bool (decide_eq_false (fun hp => hnp hp.1)).symm
theorem rc_0 {m : Msg} (h18 : m.kind = 0) (h20 : m.life ≠ 0 ∧ m.seq ≠ 0) (h25 : 0 < m.below) (h32 : m.below ≤ m.seq) (h37 : decide (nameP m.method ∧ ¬ classP m.method) = true) : m.way = 0 ↔ rightP m := by
  have hn := of_decide_eq_true h37
  exact ⟨fun h => ⟨h20.1, h20.2, .inl ⟨h18, h25, h32, hn.1, hn.2, h⟩⟩, fun h => by
    rcases h.2.2 with k | k
    · exact k.2.2.2.2.2
    · have := k.1; omega⟩
theorem rc_1 {m : Msg} (h43 : m.life ≠ 0 ∧ m.seq ≠ 0) (h48 : m.kind = 1) (h53 : m.below = 0) (h58 : m.object = 0) (h63 : m.method = { data := #[] }) (h68 : 0 ≤ m.way) : m.way ≤ 2 ↔ rightP m :=
  ⟨fun h => ⟨h43.1, h43.2, .inr ⟨h48, h53, h58, h63, h68, h⟩⟩, fun h => by
    rcases h.2.2 with k | k
    · have := k.1; omega
    · exact k.2.2.2.2.2⟩
theorem rcheck_walk (m : Msg) (w0 : World) (hok : m.ok) (hs : m.method.size ≤ 1000000000) : Does Try.prog 32 #[m.v] w0 (fun r w' => r = .int .i64 (checkC m) ∧ Nw w0 w') := by
  obtain ⟨⟨a1, a2⟩, ⟨e1, e2⟩, ⟨f1, f2⟩, ⟨g1, g2⟩⟩ := id hok
  refine fn_of (n := 75) (args := [m.v]) Try.func32 rfl rfl rfl ?_
  refine W_seq ?_
  refine W_region ?_
  refine L_new (.plain rfl) rfl rfl (r_boxa rfl) (fun w1 b1 hb1 eb1 hs1 c1 => ?_)
  refine L_r (r_ai rfl) ?_
  refine L_nil ?_
  refine W_seq ?_
  refine W_seq ?_
  refine W_region ?_
  refine L_r (r_fieldb Try.underlying33 rfl (show _ = some 1 from rfl) rfl rfl (show _ = 7 from rfl)) ?_
  refine L_r (r_lb rfl rfl) ?_
  refine L_r (r_lens Try.underlying9 rfl) ?_
  refine L_r (r_gtr rfl rfl) ?_
  refine L_nil ?_
  refine W_if rfl (fun h7 => ?_) (fun h7 => ?_)
  · refine W_seq ?_
    refine W_region ?_
    refine L_r (r_ai rfl) ?_
    refine L_nil ?_
    refine W_ret ?_
    refine ret1 (v := .int _ _) rfl rfl ?_
    refine ⟨?_, Ch.au⟩
    unfold checkC
    first
    | rw [if_pos (by omega)]
    | rw [if_neg (by omega), if_neg h74]
    | rw [if_neg (by omega), if_pos (Classical.not_not.1 h74)]
  · refine W_skip ?_
    refine W_cutF [1] (fun f W => f 3 = .bool (decide (m.life ≠ 0 ∧ m.seq ≠ 0)) ∧ (Bk W b1 #[.int .i64 m.kind, .int .u64 m.life, .int .u64 m.seq, .int .u64 m.below, .int .u64 m.object, .string m.method, .int .i64 m.way, .string m.body] 33 ∧ Nw w0 W)) ?_ ?_
    · refine W_region ?_
      refine L_r (r_fieldb Try.underlying33 rfl (show _ = some 1 from rfl) rfl rfl (show _ = 1 from rfl)) ?_
      refine L_r (r_lb rfl rfl) ?_
      refine L_r (r_gtr rfl rfl) ?_
      refine L_r (r_mb rfl) ?_
      refine L_case (d := 11) rfl (fun h11 => ?_) (fun h11 => ?_)
      · refine L_g (r_fieldb Try.underlying33 rfl (show _ = some 1 from rfl) rfl rfl (show _ = 2 from rfl)) ?_
        refine L_g (r_lb rfl rfl) ?_
        refine L_g (r_gtr rfl rfl) ?_
        refine L_r (r_pt rfl rfl) ?_
        refine L_r (r_ab rfl) ?_
        refine L_nil ?_
        refine ⟨⟨rfl, trivial⟩, (dec_i (by omega)), ?_⟩
        exact ⟨Bk.au, Ch.au⟩
      · refine L_ps ?_
        refine L_ps ?_
        refine L_ps ?_
        refine L_r (r_pf rfl rfl) ?_
        refine L_r (r_ab rfl) ?_
        refine L_nil ?_
        refine ⟨⟨rfl, trivial⟩, (dec_f (by omega)), ?_⟩
        exact ⟨Bk.au, Ch.au⟩
    rintro gcr3 w2 ⟨hf3, hCr3⟩
    refine W_as 3 hf3 rfl ?_
    clear hf3
    obtain ⟨hbm, hnw⟩ := hCr3
    have hz := hnw.size
    refine W_seq ?_
    refine W_seq ?_
    refine W_region ?_
    refine L_r (r_fieldb Try.underlying33 rfl (show _ = some 1 from rfl) rfl rfl (show _ = 0 from rfl)) ?_
    refine L_r (r_lb rfl rfl) ?_
    refine L_r (r_eql rfl rfl) ?_
    refine L_nil ?_
    refine W_endF [] (fun f W => f 3 = .bool (decide (rightP m)) ∧ (Nw w0 W)) ?_ ?_
    · refine W_if rfl (fun h18 => ?_) (fun h18 => ?_)
      · refine W_region ?_
        refine L_r (r_mb rfl) ?_
        refine L_r (r_mb rfl) ?_
        refine L_case (d := 20) rfl (fun h20 => ?_) (fun h20 => ?_)
        · refine L_g (r_fieldb Try.underlying33 rfl (show _ = some 1 from rfl) rfl rfl (show _ = 3 from rfl)) ?_
          refine L_g (r_lb rfl rfl) ?_
          refine L_g (r_gtr rfl rfl) ?_
          refine L_r (r_pt rfl rfl) ?_
          refine L_r (r_mb rfl) ?_
          refine L_case (d := 25) rfl (fun h25 => ?_) (fun h25 => ?_)
          · refine L_g (r_fieldb Try.underlying33 rfl (show _ = some 1 from rfl) rfl rfl (show _ = 3 from rfl)) ?_
            refine L_g (r_lb rfl rfl) ?_
            refine L_g (r_fieldb Try.underlying33 rfl (show _ = some 1 from rfl) rfl rfl (show _ = 2 from rfl)) ?_
            refine L_g (r_lb rfl rfl) ?_
            refine L_g (r_leq rfl rfl) ?_
            refine L_r (r_pt rfl rfl) ?_
            refine L_r (r_mb rfl) ?_
            refine L_case (d := 32) rfl (fun h32 => ?_) (fun h32 => ?_)
            · refine L_g (r_fieldb Try.underlying33 rfl (show _ = some 1 from rfl) rfl rfl (show _ = 5 from rfl)) ?_
              refine L_g (r_lb rfl rfl) ?_
              refine L_call (.yes 13 true rfl rfl) rfl rfl (r_call Try.func38 rfl rfl rfl (by rfl)) (rmember_walk m.method _ hs) ?_
              rintro v35 w3 ⟨rfl, c3⟩
              have hz3 := c3.size
              refine L_r (r_pt rfl rfl) ?_
              refine L_r (r_mb rfl) ?_
              refine L_caseb (d := 37) rfl (fun h37 => ?_) (fun h37 => ?_)
              · refine L_g (r_fieldb Try.underlying33 rfl (show _ = some 1 from rfl) rfl rfl (show _ = 6 from rfl)) ?_
                refine L_g (r_lb rfl rfl) ?_
                refine L_g (r_eql rfl rfl) ?_
                refine L_r (r_pt rfl rfl) ?_
                refine L_r (r_ab rfl) ?_
                refine L_nil ?_
                refine ⟨trivial, (dec_i (by first | exact rc_0 h18 h20 h25 h32 h37 | exact rc_1 h43 h48 h53 h58 h63 h68 | (rintro ⟨k1, k2, ⟨k3, k4, k5, k6, k7, k8⟩ | ⟨k3, k4, k5, k6, k7, k8⟩⟩ <;> first | omega | exact h63 k6 | exact of_decide_eq_false h37 ⟨k6, k7⟩))), ?_⟩
                exact Ch.au
              · refine L_ps ?_
                refine L_ps ?_
                refine L_ps ?_
                refine L_r (r_pf rfl rfl) ?_
                refine L_r (r_ab rfl) ?_
                refine L_nil ?_
                refine ⟨trivial, (dec_f (by first | exact rc_0 h18 h20 h25 h32 h37 | exact rc_1 h43 h48 h53 h58 h63 h68 | (rintro ⟨k1, k2, ⟨k3, k4, k5, k6, k7, k8⟩ | ⟨k3, k4, k5, k6, k7, k8⟩⟩ <;> first | omega | exact h63 k6 | exact of_decide_eq_false h37 ⟨k6, k7⟩))), ?_⟩
                exact Ch.au
            · refine L_ps ?_
              refine L_ps ?_
              refine L_ps ?_
              refine L_r (r_pf rfl rfl) ?_
              refine L_r (r_mb rfl) ?_
              refine L_ps ?_
              refine L_ps ?_
              refine L_ps ?_
              refine L_r (r_pf rfl rfl) ?_
              refine L_r (r_ab rfl) ?_
              refine L_nil ?_
              refine ⟨trivial, (dec_f (by first | exact rc_0 h18 h20 h25 h32 h37 | exact rc_1 h43 h48 h53 h58 h63 h68 | (rintro ⟨k1, k2, ⟨k3, k4, k5, k6, k7, k8⟩ | ⟨k3, k4, k5, k6, k7, k8⟩⟩ <;> first | omega | exact h63 k6 | exact of_decide_eq_false h37 ⟨k6, k7⟩))), ?_⟩
              exact Ch.au
          · refine L_ps ?_
            refine L_ps ?_
            refine L_ps ?_
            refine L_ps ?_
            refine L_ps ?_
            refine L_r (r_pf rfl rfl) ?_
            refine L_r (r_mb rfl) ?_
            refine L_ps ?_
            refine L_ps ?_
            refine L_ps ?_
            refine L_r (r_pf rfl rfl) ?_
            refine L_r (r_mb rfl) ?_
            refine L_ps ?_
            refine L_ps ?_
            refine L_ps ?_
            refine L_r (r_pf rfl rfl) ?_
            refine L_r (r_ab rfl) ?_
            refine L_nil ?_
            refine ⟨trivial, (dec_f (by first | exact rc_0 h18 h20 h25 h32 h37 | exact rc_1 h43 h48 h53 h58 h63 h68 | (rintro ⟨k1, k2, ⟨k3, k4, k5, k6, k7, k8⟩ | ⟨k3, k4, k5, k6, k7, k8⟩⟩ <;> first | omega | exact h63 k6 | exact of_decide_eq_false h37 ⟨k6, k7⟩))), ?_⟩
            exact Ch.au
        · refine L_ps ?_
          refine L_ps ?_
          refine L_ps ?_
          refine L_r (r_pf rfl rfl) ?_
          refine L_r (r_mb rfl) ?_
          refine L_ps ?_
          refine L_ps ?_
          refine L_ps ?_
          refine L_ps ?_
          refine L_ps ?_
          refine L_r (r_pf rfl rfl) ?_
          refine L_r (r_mb rfl) ?_
          refine L_ps ?_
          refine L_ps ?_
          refine L_ps ?_
          refine L_r (r_pf rfl rfl) ?_
          refine L_r (r_mb rfl) ?_
          refine L_ps ?_
          refine L_ps ?_
          refine L_ps ?_
          refine L_r (r_pf rfl rfl) ?_
          refine L_r (r_ab rfl) ?_
          refine L_nil ?_
          refine ⟨trivial, (dec_f (by first | exact rc_0 h18 h20 h25 h32 h37 | exact rc_1 h43 h48 h53 h58 h63 h68 | (rintro ⟨k1, k2, ⟨k3, k4, k5, k6, k7, k8⟩ | ⟨k3, k4, k5, k6, k7, k8⟩⟩ <;> first | omega | exact h63 k6 | exact of_decide_eq_false h37 ⟨k6, k7⟩))), ?_⟩
          exact Ch.au
      · refine W_region ?_
        refine L_r (r_mb rfl) ?_
        refine L_r (r_mb rfl) ?_
        refine L_case (d := 43) rfl (fun h43 => ?_) (fun h43 => ?_)
        · refine L_g (r_fieldb Try.underlying33 rfl (show _ = some 1 from rfl) rfl rfl (show _ = 0 from rfl)) ?_
          refine L_g (r_lb rfl rfl) ?_
          refine L_g (r_eql rfl rfl) ?_
          refine L_r (r_pt rfl rfl) ?_
          refine L_r (r_mb rfl) ?_
          refine L_case (d := 48) rfl (fun h48 => ?_) (fun h48 => ?_)
          · refine L_g (r_fieldb Try.underlying33 rfl (show _ = some 1 from rfl) rfl rfl (show _ = 3 from rfl)) ?_
            refine L_g (r_lb rfl rfl) ?_
            refine L_g (r_eql rfl rfl) ?_
            refine L_r (r_pt rfl rfl) ?_
            refine L_r (r_mb rfl) ?_
            refine L_case (d := 53) rfl (fun h53 => ?_) (fun h53 => ?_)
            · refine L_g (r_fieldb Try.underlying33 rfl (show _ = some 1 from rfl) rfl rfl (show _ = 4 from rfl)) ?_
              refine L_g (r_lb rfl rfl) ?_
              refine L_g (r_eql rfl rfl) ?_
              refine L_r (r_pt rfl rfl) ?_
              refine L_r (r_mb rfl) ?_
              refine L_case (d := 58) rfl (fun h58 => ?_) (fun h58 => ?_)
              · refine L_g (r_fieldb Try.underlying33 rfl (show _ = some 1 from rfl) rfl rfl (show _ = 5 from rfl)) ?_
                refine L_g (r_lb rfl rfl) ?_
                refine L_g (r_eqls rfl rfl) ?_
                refine L_r (r_pt rfl rfl) ?_
                refine L_r (r_mb rfl) ?_
                refine L_case (d := 63) rfl (fun h63 => ?_) (fun h63 => ?_)
                · refine L_g (r_fieldb Try.underlying33 rfl (show _ = some 1 from rfl) rfl rfl (show _ = 6 from rfl)) ?_
                  refine L_g (r_lb rfl rfl) ?_
                  refine L_g (r_geq rfl rfl) ?_
                  refine L_r (r_pt rfl rfl) ?_
                  refine L_r (r_mb rfl) ?_
                  refine L_case (d := 68) rfl (fun h68 => ?_) (fun h68 => ?_)
                  · refine L_g (r_fieldb Try.underlying33 rfl (show _ = some 1 from rfl) rfl rfl (show _ = 6 from rfl)) ?_
                    refine L_g (r_lb rfl rfl) ?_
                    refine L_g (r_leq rfl rfl) ?_
                    refine L_r (r_pt rfl rfl) ?_
                    refine L_r (r_ab rfl) ?_
                    refine L_nil ?_
                    refine ⟨trivial, (dec_i (by first | exact rc_0 h18 h20 h25 h32 h37 | exact rc_1 h43 h48 h53 h58 h63 h68 | (rintro ⟨k1, k2, ⟨k3, k4, k5, k6, k7, k8⟩ | ⟨k3, k4, k5, k6, k7, k8⟩⟩ <;> first | omega | exact h63 k6 | exact of_decide_eq_false h37 ⟨k6, k7⟩))), ?_⟩
                    exact Ch.au
                  · refine L_ps ?_
                    refine L_ps ?_
                    refine L_ps ?_
                    refine L_r (r_pf rfl rfl) ?_
                    refine L_r (r_ab rfl) ?_
                    refine L_nil ?_
                    refine ⟨trivial, (dec_f (by first | exact rc_0 h18 h20 h25 h32 h37 | exact rc_1 h43 h48 h53 h58 h63 h68 | (rintro ⟨k1, k2, ⟨k3, k4, k5, k6, k7, k8⟩ | ⟨k3, k4, k5, k6, k7, k8⟩⟩ <;> first | omega | exact h63 k6 | exact of_decide_eq_false h37 ⟨k6, k7⟩))), ?_⟩
                    exact Ch.au
                · refine L_ps ?_
                  refine L_ps ?_
                  refine L_ps ?_
                  refine L_r (r_pf rfl rfl) ?_
                  refine L_r (r_mb rfl) ?_
                  refine L_ps ?_
                  refine L_ps ?_
                  refine L_ps ?_
                  refine L_r (r_pf rfl rfl) ?_
                  refine L_r (r_ab rfl) ?_
                  refine L_nil ?_
                  refine ⟨trivial, (dec_f (by first | exact rc_0 h18 h20 h25 h32 h37 | exact rc_1 h43 h48 h53 h58 h63 h68 | (rintro ⟨k1, k2, ⟨k3, k4, k5, k6, k7, k8⟩ | ⟨k3, k4, k5, k6, k7, k8⟩⟩ <;> first | omega | exact h63 k6 | exact of_decide_eq_false h37 ⟨k6, k7⟩))), ?_⟩
                  exact Ch.au
              · refine L_ps ?_
                refine L_ps ?_
                refine L_ps ?_
                refine L_r (r_pf rfl rfl) ?_
                refine L_r (r_mb rfl) ?_
                refine L_ps ?_
                refine L_ps ?_
                refine L_ps ?_
                refine L_r (r_pf rfl rfl) ?_
                refine L_r (r_mb rfl) ?_
                refine L_ps ?_
                refine L_ps ?_
                refine L_ps ?_
                refine L_r (r_pf rfl rfl) ?_
                refine L_r (r_ab rfl) ?_
                refine L_nil ?_
                refine ⟨trivial, (dec_f (by first | exact rc_0 h18 h20 h25 h32 h37 | exact rc_1 h43 h48 h53 h58 h63 h68 | (rintro ⟨k1, k2, ⟨k3, k4, k5, k6, k7, k8⟩ | ⟨k3, k4, k5, k6, k7, k8⟩⟩ <;> first | omega | exact h63 k6 | exact of_decide_eq_false h37 ⟨k6, k7⟩))), ?_⟩
                exact Ch.au
            · refine L_ps ?_
              refine L_ps ?_
              refine L_ps ?_
              refine L_r (r_pf rfl rfl) ?_
              refine L_r (r_mb rfl) ?_
              refine L_ps ?_
              refine L_ps ?_
              refine L_ps ?_
              refine L_r (r_pf rfl rfl) ?_
              refine L_r (r_mb rfl) ?_
              refine L_ps ?_
              refine L_ps ?_
              refine L_ps ?_
              refine L_r (r_pf rfl rfl) ?_
              refine L_r (r_mb rfl) ?_
              refine L_ps ?_
              refine L_ps ?_
              refine L_ps ?_
              refine L_r (r_pf rfl rfl) ?_
              refine L_r (r_ab rfl) ?_
              refine L_nil ?_
              refine ⟨trivial, (dec_f (by first | exact rc_0 h18 h20 h25 h32 h37 | exact rc_1 h43 h48 h53 h58 h63 h68 | (rintro ⟨k1, k2, ⟨k3, k4, k5, k6, k7, k8⟩ | ⟨k3, k4, k5, k6, k7, k8⟩⟩ <;> first | omega | exact h63 k6 | exact of_decide_eq_false h37 ⟨k6, k7⟩))), ?_⟩
              exact Ch.au
          · refine L_ps ?_
            refine L_ps ?_
            refine L_ps ?_
            refine L_r (r_pf rfl rfl) ?_
            refine L_r (r_mb rfl) ?_
            refine L_ps ?_
            refine L_ps ?_
            refine L_ps ?_
            refine L_r (r_pf rfl rfl) ?_
            refine L_r (r_mb rfl) ?_
            refine L_ps ?_
            refine L_ps ?_
            refine L_ps ?_
            refine L_r (r_pf rfl rfl) ?_
            refine L_r (r_mb rfl) ?_
            refine L_ps ?_
            refine L_ps ?_
            refine L_ps ?_
            refine L_r (r_pf rfl rfl) ?_
            refine L_r (r_mb rfl) ?_
            refine L_ps ?_
            refine L_ps ?_
            refine L_ps ?_
            refine L_r (r_pf rfl rfl) ?_
            refine L_r (r_ab rfl) ?_
            refine L_nil ?_
            refine ⟨trivial, (dec_f (by first | exact rc_0 h18 h20 h25 h32 h37 | exact rc_1 h43 h48 h53 h58 h63 h68 | (rintro ⟨k1, k2, ⟨k3, k4, k5, k6, k7, k8⟩ | ⟨k3, k4, k5, k6, k7, k8⟩⟩ <;> first | omega | exact h63 k6 | exact of_decide_eq_false h37 ⟨k6, k7⟩))), ?_⟩
            exact Ch.au
        · refine L_ps ?_
          refine L_ps ?_
          refine L_ps ?_
          refine L_r (r_pf rfl rfl) ?_
          refine L_r (r_mb rfl) ?_
          refine L_ps ?_
          refine L_ps ?_
          refine L_ps ?_
          refine L_r (r_pf rfl rfl) ?_
          refine L_r (r_mb rfl) ?_
          refine L_ps ?_
          refine L_ps ?_
          refine L_ps ?_
          refine L_r (r_pf rfl rfl) ?_
          refine L_r (r_mb rfl) ?_
          refine L_ps ?_
          refine L_ps ?_
          refine L_ps ?_
          refine L_r (r_pf rfl rfl) ?_
          refine L_r (r_mb rfl) ?_
          refine L_ps ?_
          refine L_ps ?_
          refine L_ps ?_
          refine L_r (r_pf rfl rfl) ?_
          refine L_r (r_mb rfl) ?_
          refine L_ps ?_
          refine L_ps ?_
          refine L_ps ?_
          refine L_r (r_pf rfl rfl) ?_
          refine L_r (r_ab rfl) ?_
          refine L_nil ?_
          refine ⟨trivial, (dec_f (by first | exact rc_0 h18 h20 h25 h32 h37 | exact rc_1 h43 h48 h53 h58 h63 h68 | (rintro ⟨k1, k2, ⟨k3, k4, k5, k6, k7, k8⟩ | ⟨k3, k4, k5, k6, k7, k8⟩⟩ <;> first | omega | exact h63 k6 | exact of_decide_eq_false h37 ⟨k6, k7⟩))), ?_⟩
          exact Ch.au
    rintro gct18 w4 ⟨hf3, hCt18⟩
    refine W_as 3 hf3 rfl ?_
    clear hf3
    have hz := hCt18.size
    refine W_seq ?_
    refine W_seq ?_
    refine W_region ?_
    refine L_r (r_mb rfl) ?_
    refine L_r (r_notp rfl) ?_
    refine L_nil ?_
    refine W_if rfl (fun h74 => ?_) (fun h74 => ?_)
    · refine W_seq ?_
      refine W_region ?_
      refine L_r (r_ai rfl) ?_
      refine L_nil ?_
      refine W_ret ?_
      refine ret1 (v := .int _ _) rfl rfl ?_
      refine ⟨?_, Ch.au⟩
      unfold checkC
      first
      | rw [if_pos (by omega)]
      | rw [if_neg (by omega), if_neg h74]
      | rw [if_neg (by omega), if_pos (Classical.not_not.1 h74)]
    · refine W_skip ?_
      refine W_seq ?_
      refine W_region ?_
      refine L_r (r_ai rfl) ?_
      refine L_nil ?_
      refine W_ret ?_
      refine ret1 (v := .int _ _) rfl rfl ?_
      refine ⟨?_, Ch.au⟩
      unfold checkC
      first
      | rw [if_pos (by omega)]
      | rw [if_neg (by omega), if_neg h74]
      | rw [if_neg (by omega), if_pos (Classical.not_not.1 h74)]
end Go.Proofs.Ytjjddbicggfgnaa

