/- Kinds by the document, walked. -/
import Derived.Test.YtioonbfinnigpaaGreatDoorKind3
namespace Go.Proofs.YtioonbfinnigpaaGreatDoor
open Go Go.RowKit
set_option linter.unusedVariables false
set_option linter.unusedSimpArgs false
set_option maxRecDepth 100000
theorem class_iff {s : ByteArray} (h : nameP s) : ((bat s 0).toNat : Int) ≤ 90 ↔ classP s := by
  obtain ⟨h1, h2, h3, h4⟩ := id h
  have h5 := h4 0 h1
  unfold nameC greatC smallC digitC at h5
  unfold digitC at h3
  unfold classP greatC
  exact ⟨fun h6 => ⟨h, by omega⟩, fun h6 => by omega⟩
theorem rclass_walk (s : ByteArray) (w0 : World) (hs : s.size ≤ 1000000000) : Does Tryz.prog 49 #[.string s] w0 (fun r w' => r = .bool (decide (classP s)) ∧ Nw w0 w') := by
  refine fn_of (n := 10) (args := [.string s]) Tryz.func49 rfl rfl rfl ?_
  refine W_seq ?_
  refine W_region ?_
  refine L_r (r_ab rfl) ?_
  refine L_nil ?_
  refine W_seq ?_
  refine W_region ?_
  refine L_r (r_ms rfl) ?_
  refine L_call (.plain rfl) rfl rfl (r_call Tryz.func71 rfl rfl rfl (by rfl)) (rname_walk s _ hs) ?_
  rintro v4 w1 ⟨rfl, c1⟩
  have hz1 := c1.size
  refine L_r (r_mb rfl) ?_
  refine L_caseb (d := 5) rfl (fun h5 => ?_) (fun h5 => ?_)
  · have hnp := of_decide_eq_true h5
    have hsp := hnp.1
    refine L_g (r_ms rfl) ?_
    refine L_g (r_indexs Tryz.underlying9 rfl rfl (by omega) (by omega) (by conv => lhs; (try simp only [Nat.mul_one, Nat.zero_add, Int.toNat_natCast, Int.toNat_zero, Int.reduceToNat, Nat.reduceMul, Nat.reduceAdd]))) ?_
    refine L_g (r_leq rfl rfl) ?_
    refine L_r (r_pt rfl rfl) ?_
    refine L_r (r_ab rfl) ?_
    refine L_nil ?_
    refine W_ret ?_
    refine ret1 (v := .bool _) rfl rfl ?_
    refine ⟨?_, Ch.au⟩
    first
    | exact congrArg Value.bool (decide_eq_decide.2 (class_iff hnp))
    | exact congrArg Value.bool (decide_eq_false (fun hp => hnp hp.1)).symm
  · have hnp := of_decide_eq_false h5
    refine L_ps ?_
    refine L_ps ?_
    refine L_ps ?_
    refine L_r (r_pf rfl rfl) ?_
    refine L_r (r_ab rfl) ?_
    refine L_nil ?_
    refine W_ret ?_
    refine ret1 (v := .bool _) rfl rfl ?_
    refine ⟨?_, Ch.au⟩
    first
    | exact congrArg Value.bool (decide_eq_decide.2 (class_iff hnp))
    | exact congrArg Value.bool (decide_eq_false (fun hp => hnp hp.1)).symm
theorem rmem_use (s : ByteArray) (w0 : World) (hs : s.size ≤ 1000000000) : Does Tryz.prog 72 #[.string s] w0 (fun r w' => r = .bool (decide (memP s)) ∧ Nw w0 w') :=
  (rmember_walk s w0 hs).mono (by rintro r w' ⟨rfl, c⟩; exact ⟨congrArg Value.bool (decide_eq_decide.2 (memP_iff s).symm), c⟩)
theorem rplain_walk (s : ByteArray) (w0 : World) : Does Tryz.prog 51 #[.string s] w0 (fun r w' => r = .bool (decide (plainP s)) ∧ w' = w0) := by
  refine fn_of (n := 8) (args := [.string s]) Tryz.func51 rfl rfl rfl ?_
  refine W_seq ?_
  refine W_region ?_
  refine L_r (r_ab rfl) ?_
  refine L_nil ?_
  refine W_seq ?_
  refine W_seq ?_
  refine W_region ?_
  refine L_r (r_ms rfl) ?_
  refine L_nil ?_
  refine W_block ?_
  refine W_seq ?_
  refine W_seq ?_
  refine W_region ?_
  refine L_r (r_eqls rfl rfl) ?_
  refine L_r (r_ab rfl) ?_
  refine L_nil ?_
  refine W_if rfl (fun h4 => ?_) (fun h4 => ?_)
  · refine W_skip ?_
    refine W_if rfl (fun h4 => ?_) (fun h4 => ?_)
    · refine W_seq ?_
      refine W_region ?_
      refine L_r (r_ab rfl) ?_
      refine L_nil ?_
      refine W_ret ?_
      refine ret1 (v := .bool _) rfl rfl ?_
      refine ⟨?_, rfl⟩
      first
      | contradiction
      | exact bool_t (.inl (by assumption))
      | exact bool_t (.inr (.inl (by assumption)))
      | exact bool_t (.inr (.inr (by assumption)))
      | exact bool_f (fun h => by rcases h with h | h | h <;> exact absurd h (by assumption))
    · refine W_skip ?_
      refine W_seq ?_
      refine W_region ?_
      refine L_r (r_ab rfl) ?_
      refine L_nil ?_
      refine W_ret ?_
      refine ret1 (v := .bool _) rfl rfl ?_
      refine ⟨?_, rfl⟩
      first
      | contradiction
      | exact bool_t (.inl (by assumption))
      | exact bool_t (.inr (.inl (by assumption)))
      | exact bool_t (.inr (.inr (by assumption)))
      | exact bool_f (fun h => by rcases h with h | h | h <;> exact absurd h (by assumption))
  · refine W_seq ?_
    refine W_region ?_
    refine L_r (r_eqls rfl rfl) ?_
    refine L_r (r_ab rfl) ?_
    refine L_nil ?_
    refine W_if rfl (fun h4 => ?_) (fun h4 => ?_)
    · refine W_skip ?_
      refine W_if rfl (fun h4 => ?_) (fun h4 => ?_)
      · refine W_seq ?_
        refine W_region ?_
        refine L_r (r_ab rfl) ?_
        refine L_nil ?_
        refine W_ret ?_
        refine ret1 (v := .bool _) rfl rfl ?_
        refine ⟨?_, rfl⟩
        first
        | contradiction
        | exact bool_t (.inl (by assumption))
        | exact bool_t (.inr (.inl (by assumption)))
        | exact bool_t (.inr (.inr (by assumption)))
        | exact bool_f (fun h => by rcases h with h | h | h <;> exact absurd h (by assumption))
      · refine W_skip ?_
        refine W_seq ?_
        refine W_region ?_
        refine L_r (r_ab rfl) ?_
        refine L_nil ?_
        refine W_ret ?_
        refine ret1 (v := .bool _) rfl rfl ?_
        refine ⟨?_, rfl⟩
        first
        | contradiction
        | exact bool_t (.inl (by assumption))
        | exact bool_t (.inr (.inl (by assumption)))
        | exact bool_t (.inr (.inr (by assumption)))
        | exact bool_f (fun h => by rcases h with h | h | h <;> exact absurd h (by assumption))
    · refine W_region ?_
      refine L_r (r_eqls rfl rfl) ?_
      refine L_r (r_ab rfl) ?_
      refine L_nil ?_
      refine W_if rfl (fun h4 => ?_) (fun h4 => ?_)
      · refine W_seq ?_
        refine W_region ?_
        refine L_r (r_ab rfl) ?_
        refine L_nil ?_
        refine W_ret ?_
        refine ret1 (v := .bool _) rfl rfl ?_
        refine ⟨?_, rfl⟩
        first
        | contradiction
        | exact bool_t (.inl (by assumption))
        | exact bool_t (.inr (.inl (by assumption)))
        | exact bool_t (.inr (.inr (by assumption)))
        | exact bool_f (fun h => by rcases h with h | h | h <;> exact absurd h (by assumption))
      · refine W_skip ?_
        refine W_seq ?_
        refine W_region ?_
        refine L_r (r_ab rfl) ?_
        refine L_nil ?_
        refine W_ret ?_
        refine ret1 (v := .bool _) rfl rfl ?_
        refine ⟨?_, rfl⟩
        first
        | contradiction
        | exact bool_t (.inl (by assumption))
        | exact bool_t (.inr (.inl (by assumption)))
        | exact bool_t (.inr (.inr (by assumption)))
        | exact bool_f (fun h => by rcases h with h | h | h <;> exact absurd h (by assumption))
theorem ends_iff (s : ByteArray) (h : 2 ≤ s.size) : s.extract (s.size - 2) s.size = arr2 ↔ endsA (bs s) = true := by
  have h1 := Lib.hasSuffix_raw s arr2
  have h2 : arr2.size = 2 := rfl
  have h3 : endsA (bs s) = Lib.hasSuffix s.data.toList arr2.data.toList := rfl
  rw [h3, ← h1, h2, decide_eq_true h, Bool.true_and, beq_iff_eq]
  constructor
  · intro e; rw [e]
  · intro e
    rw [Lib.toList_data, Lib.toList_data] at e
    rw [← bs_inj]; exact e
theorem take_ext (s : ByteArray) (k : Nat) : s.extract 0 k = sb ((bs s).take k) := by
  rw [extract_bs]; simp
theorem rdeep_walk (s : ByteArray) (w0 : World) (hs : s.size ≤ 1000000) : Does Tryz.prog 52 #[.string s] w0 (fun r w' => r = .int .i64 (baseN s : Int) ∧ Nw w0 w') := by
  refine fn_of (n := 23) (args := [.string s]) Tryz.func52 rfl rfl rfl ?_
  refine W_seq ?_
  refine W_region ?_
  refine L_r (r_ai rfl) ?_
  refine L_nil ?_
  refine W_seq ?_
  refine W_region ?_
  refine L_r (r_ai rfl) ?_
  refine L_nil ?_
  refine W_seq ?_
  refine W_block ?_
  refine W_loopF [] (fun mz_ f W => ∃ (cur : ByteArray) (n : Nat), f 0 = .string cur ∧ f 3 = .int .i64 n ∧ (baseN s = baseN cur + n ∧ cur.size + 2 * n = s.size ∧ Nw w0 W) ∧ mz_ = cur.size) ?_ ?_
  · refine ⟨_, s, 0, rfl, rfl, ?_, rfl⟩
    exact ⟨rfl, by omega, Ch.au⟩
  rintro m0 g0 w1 ⟨cur, n, hf0, hf3, hR0, rfl⟩
  refine W_as 0 hf0 rfl ?_
  refine W_as 3 hf3 rfl ?_
  clear hf0 hf3
  obtain ⟨hb, hsz, hnw⟩ := hR0
  have hz := hnw.size
  refine W_seq ?_
  refine W_seq ?_
  refine W_region ?_
  refine L_r (r_ms rfl) ?_
  refine L_r (r_lens Tryz.underlying9 rfl) ?_
  refine L_r (r_geq rfl rfl) ?_
  refine L_r (r_mb rfl) ?_
  refine L_case (d := 7) rfl (fun h7 => ?_) (fun h7 => ?_)
  · refine L_g (r_ms rfl) ?_
    refine L_g (r_ms rfl) ?_
    refine L_g (r_lens Tryz.underlying9 rfl) ?_
    refine L_g (r_sub rfl rfl (by first | exact wr_i64 (by omega) | rfl)) ?_
    rw [show (cur.size : Int) - 2 = ((cur.size - 2 : Nat) : Int) by omega]
    refine L_g (r_slices_l Tryz.underlying9 rfl rfl (by omega) (by omega)) ?_
    refine L_g (r_eqls rfl rfl) ?_
    refine L_r (r_pt rfl rfl) ?_
    refine L_nil ?_
    refine W_if rfl (fun h14 => ?_) (fun h14 => ?_)
    · have he : endsA (bs cur) = true := (ends_iff cur (by omega)).1 (by simpa using h14)
      have hex := take_ext cur (cur.size - 2)
      refine W_skip ?_
      refine W_block ?_
      refine W_seq ?_
      refine W_region ?_
      refine L_r (r_mi rfl) ?_
      refine L_r (r_add rfl rfl (by first | exact wr_i64 (by omega) | rfl)) ?_
      refine L_r (r_ai rfl) ?_
      refine L_nil ?_
      refine W_region ?_
      refine L_r (r_ms rfl) ?_
      refine L_r (r_ms rfl) ?_
      refine L_r (r_lens Tryz.underlying9 rfl) ?_
      refine L_r (r_sub rfl rfl (by first | exact wr_i64 (by omega) | rfl)) ?_
      rw [show (cur.size : Int) - 2 = ((cur.size - 2 : Nat) : Int) by omega]
      refine L_r (r_slices_h Tryz.underlying9 rfl rfl (by omega) (by omega)) ?_
      refine L_r (r_as rfl) ?_
      refine L_nil ?_
      refine ⟨trivial, _, ?_, cur.extract 0 (cur.size - 2), n + 1, rfl, rfl, ?_, rfl⟩
      · rw [hex, sb_size, List.length_take, bs_length]; omega
      refine ⟨?_, by rw [hex, sb_size, List.length_take, bs_length]; omega, Ch.au⟩
      have e : baseN cur = baseN (cur.extract 0 (cur.size - 2)) + 1 := by
        unfold baseN
        rw [hex, bs_sb, baseF_yes he]
        rw [bs_length]
      omega
    · refine W_exit ?_
      repeat (first | refine blk_hit ?_ | refine blk_miss rfl ?_)
      refine W_seq ?_
      refine W_region ?_
      refine L_r (r_mi rfl) ?_
      refine L_r (r_ai rfl) ?_
      refine L_nil ?_
      refine W_ret ?_
      refine ret1 (v := .int _ _) rfl rfl ?_
      refine ⟨?_, Ch.au⟩
      have he : endsA (bs cur) = false := by
        cases hh : endsA (bs cur) with
        | false => rfl
        | true =>
          exfalso
          have h2 := endsA_le hh
          rw [bs_length] at h2
          first
          | omega
          | exact h14 ((ends_iff cur h2).2 hh)
      have e0 : baseN cur = 0 := by unfold baseN; rw [baseF_no he]
      rw [hb, e0, Nat.zero_add]
  · refine L_ps ?_
    refine L_ps ?_
    refine L_ps ?_
    refine L_ps ?_
    refine L_ps ?_
    refine L_ps ?_
    refine L_r (r_pf rfl rfl) ?_
    refine L_nil ?_
    refine W_false rfl ?_
    refine W_exit ?_
    repeat (first | refine blk_hit ?_ | refine blk_miss rfl ?_)
    refine W_seq ?_
    refine W_region ?_
    refine L_r (r_mi rfl) ?_
    refine L_r (r_ai rfl) ?_
    refine L_nil ?_
    refine W_ret ?_
    refine ret1 (v := .int _ _) rfl rfl ?_
    refine ⟨?_, Ch.au⟩
    have he : endsA (bs cur) = false := by
      cases hh : endsA (bs cur) with
      | false => rfl
      | true =>
        exfalso
        have h2 := endsA_le hh
        rw [bs_length] at h2
        first
        | omega
        | exact h14 ((ends_iff cur h2).2 hh)
    have e0 : baseN cur = 0 := by unfold baseN; rw [baseF_no he]
    rw [hb, e0, Nat.zero_add]
theorem base_ext (s : ByteArray) : s.extract 0 (s.size - 2 * baseN s) = baseS s := by
  rw [take_ext]
  unfold baseS baseN
  rw [baseF_take (bs s), bs_length]
theorem rright_walk (s : ByteArray) (w0 : World) (hs : s.size ≤ 1000000) : Does Tryz.prog 50 #[.string s] w0 (fun r w' => r = .bool (decide (rightK s)) ∧ Nw w0 w') := by
  have hle := baseN_le s
  refine fn_of (n := 24) (args := [.string s]) Tryz.func50 rfl rfl rfl ?_
  refine W_seq ?_
  refine W_region ?_
  refine L_r (r_ab rfl) ?_
  refine L_nil ?_
  refine W_seq ?_
  refine W_region ?_
  refine L_r (r_ms rfl) ?_
  refine L_call (.plain rfl) rfl rfl (r_call Tryz.func52 rfl rfl rfl (by rfl)) (rdeep_walk s _ hs) ?_
  rintro v6 w1 ⟨rfl, c1⟩
  have hz1 := c1.size
  refine L_r (r_ai rfl) ?_
  refine L_nil ?_
  refine W_seq ?_
  refine W_region ?_
  refine L_r (r_ms rfl) ?_
  refine L_r (r_ms rfl) ?_
  refine L_r (r_lens Tryz.underlying9 rfl) ?_
  refine L_r (r_mi rfl) ?_
  refine L_r (r_mul rfl rfl (by first | exact wr_i64 (by omega) | rfl)) ?_
  refine L_r (r_sub rfl rfl (by first | exact wr_i64 (by omega) | rfl)) ?_
  rw [show (s.size : Int) - 2 * (baseN s : Int) = ((s.size - 2 * baseN s : Nat) : Int) by omega]
  refine L_r (r_slices_h Tryz.underlying9 rfl rfl (by omega) (by omega)) ?_
  rw [show s.extract 0 (((s.size - 2 * baseN s : Nat) : Int).toNat) = baseS s from base_ext s]
  refine L_r (r_as rfl) ?_
  refine L_nil ?_
  refine W_seq ?_
  refine W_region ?_
  refine L_r (r_mi rfl) ?_
  refine L_r (r_leq rfl rfl) ?_
  refine L_r (r_mb rfl) ?_
  refine L_case (d := 16) rfl (fun h16 => ?_) (fun h16 => ?_)
  · refine L_g (r_ms rfl) ?_
    refine L_call (.yes 2 true rfl rfl) rfl rfl (r_call Tryz.func51 rfl rfl rfl (by rfl)) (rplain_walk (baseS s) _) ?_
    rintro v18 w2 ⟨rfl, rfl⟩
    refine L_g (r_mb rfl) ?_
    refine L_caseb (d := 19) rfl (fun h19 => ?_) (fun h19 => ?_)
    · refine L_ps ?_
      refine L_ps ?_
      refine L_g (r_pt rfl rfl) ?_
      refine L_r (r_pt rfl rfl) ?_
      refine L_r (r_ab rfl) ?_
      refine L_nil ?_
      refine W_ret ?_
      refine ret1 (v := .bool _) rfl rfl ?_
      refine ⟨?_, Ch.au⟩
      (try simp only [decide_eq_true_eq, decide_eq_false_iff_not] at *)
      first
      | exact bool_t ⟨by omega, .inl (by assumption)⟩
      | exact bool_f (fun h => by have := h.1; omega)
      | exact bool_dec ⟨fun h => ⟨by omega, .inr h⟩, fun h => h.2.resolve_left (by assumption)⟩
    · refine L_g (r_ms rfl) ?_
      refine L_call (.yes 5 false rfl rfl) rfl rfl (r_call Tryz.func49 rfl rfl rfl (by rfl)) (rclass_walk (baseS s) _ (by rw [← base_ext s, take_ext, sb_size, List.length_take, bs_length]; omega)) ?_
      rintro v21 w3 ⟨rfl, c3⟩
      have hz3 := c3.size
      refine L_g (r_pf rfl rfl) ?_
      refine L_r (r_pt rfl rfl) ?_
      refine L_r (r_ab rfl) ?_
      refine L_nil ?_
      refine W_ret ?_
      refine ret1 (v := .bool _) rfl rfl ?_
      refine ⟨?_, Ch.au⟩
      (try simp only [decide_eq_true_eq, decide_eq_false_iff_not] at *)
      first
      | exact bool_t ⟨by omega, .inl (by assumption)⟩
      | exact bool_f (fun h => by have := h.1; omega)
      | exact bool_dec ⟨fun h => ⟨by omega, .inr h⟩, fun h => h.2.resolve_left (by assumption)⟩
  · refine L_ps ?_
    refine L_ps ?_
    refine L_ps ?_
    refine L_pu ?_
    refine L_pu ?_
    refine L_ps ?_
    refine L_r (r_pf rfl rfl) ?_
    refine L_r (r_ab rfl) ?_
    refine L_nil ?_
    refine W_ret ?_
    refine ret1 (v := .bool _) rfl rfl ?_
    refine ⟨?_, Ch.au⟩
    (try simp only [decide_eq_true_eq, decide_eq_false_iff_not] at *)
    first
    | exact bool_t ⟨by omega, .inl (by assumption)⟩
    | exact bool_f (fun h => by have := h.1; omega)
    | exact bool_dec ⟨fun h => ⟨by omega, .inr h⟩, fun h => h.2.resolve_left (by assumption)⟩
theorem rparts_walk (s : ByteArray) (w0 : World) (hs : s.size ≤ 1000000) : Does Tryz.prog 53 #[.string s] w0 (fun r w' => (∃ x y, r = .tuple #[.string x, .string y, .bool (partsO s).isSome] ∧ ∀ p, partsO s = some p → p = (x, y)) ∧ Nw w0 w') := by
  refine fn_of (n := 34) (args := [.string s]) Tryz.func53 rfl rfl rfl ?_
  refine W_seq ?_
  refine W_region ?_
  refine L_r (r_as rfl) ?_
  refine L_r (r_as rfl) ?_
  refine L_r (r_ab rfl) ?_
  refine L_nil ?_
  refine W_seq ?_
  refine W_seq ?_
  refine W_region ?_
  refine L_r (r_ai rfl) ?_
  refine L_nil ?_
  refine W_block ?_
  refine W_loopF [0] (fun mz_ f W => ∃ (i : Nat), f 5 = .int .i64 i ∧ (i ≤ s.size ∧ (∀ j, j < i → (bat s j).toNat ≠ 46) ∧ Nw w0 W) ∧ mz_ = s.size - i) ?_ ?_
  · refine ⟨_, 0, rfl, ?_, rfl⟩
    exact ⟨by omega, fun j hj => absurd hj (by omega), Ch.au⟩
  rintro m0 g0 w1 ⟨i, hf5, hR0, rfl⟩
  refine W_as 5 hf5 rfl ?_
  clear hf5
  obtain ⟨hi, hn, hnw⟩ := hR0
  have hz := hnw.size
  refine W_seq ?_
  refine W_seq ?_
  refine W_region ?_
  refine L_r (r_mi rfl) ?_
  refine L_r (r_ms rfl) ?_
  refine L_r (r_lens Tryz.underlying9 rfl) ?_
  refine L_r (r_lss rfl rfl) ?_
  refine L_nil ?_
  refine W_if rfl (fun h9 => ?_) (fun h9 => ?_)
  · refine W_skip ?_
    refine W_seq ?_
    refine W_block ?_
    refine W_seq ?_
    refine W_region ?_
    refine L_r (r_ms rfl) ?_
    refine L_r (r_mi rfl) ?_
    refine L_r (r_indexs Tryz.underlying9 rfl rfl (by omega) (by omega) (by conv => lhs; (try simp only [Nat.mul_one, Nat.zero_add, Int.toNat_natCast, Int.toNat_zero, Int.reduceToNat, Nat.reduceMul, Nat.reduceAdd]))) ?_
    refine L_r (r_eql rfl rfl) ?_
    refine L_nil ?_
    refine W_if rfl (fun h15 => ?_) (fun h15 => ?_)
    · have hd := dot_at (s := s) (i := i) (by omega) (by omega) hn
      have hx1 := take_ext s i
      have hx2 : s.extract (i + 1) s.size = sb ((bs s).drop (i + 1)) := by rw [extract_bs]; congr 1; rw [List.take_of_length_le]; rw [List.length_drop, bs_length]; omega
      have hp : partsO s = if classP (s.extract 0 i) ∧ memP (s.extract (i + 1) s.size) then some (s.extract 0 i, s.extract (i + 1) s.size) else none := by
        unfold partsO; rw [hd, hx1, hx2]; simp
      have hs1 : (s.extract 0 i).size ≤ 1000000 := by rw [hx1, sb_size, List.length_take, bs_length]; omega
      have hs2 : (s.extract (i + 1) s.size).size ≤ 1000000 := by rw [hx2, sb_size, List.length_drop, bs_length]; omega
      clear hx1 hx2 hd
      obtain ⟨a, ha⟩ : ∃ a, a = s.extract 0 i := ⟨_, rfl⟩
      obtain ⟨d, hdd⟩ : ∃ d, d = s.extract (i + 1) s.size := ⟨_, rfl⟩
      rw [← ha, ← hdd] at hp
      rw [← ha] at hs1
      rw [← hdd] at hs2
      refine W_seq ?_
      refine W_draw (fun _ => True) 21 (m := 21) (by kernel_rfl) rfl (fun w2 c2 hs2 => ?_)
      refine held (by trivial) (fun hS => ?_)
      refine D_t 0 rfl (fun W hW => r_ms rfl) ?_
      refine D_t 1 rfl (fun W hW => r_mi rfl) ?_
      refine D_t 2 rfl (fun W hW => r_slices_h Tryz.underlying9 rfl rfl (by omega) (by omega)) ?_
      rw [show s.extract 0 ((i : Int).toNat) = a from ha.symm]
      refine D_t 3 rfl (fun W hW => r_ms rfl) ?_
      refine D_t 4 rfl (fun W hW => r_mi rfl) ?_
      refine D_t 5 rfl (fun W hW => r_add rfl rfl (by first | exact wr_i64 (by omega) | rfl)) ?_
      refine D_t 6 rfl (fun W hW => r_slices_l Tryz.underlying9 rfl rfl (by omega) (by omega)) ?_
      rw [show s.extract (((i : Int) + 1).toNat) s.size = d from hdd.symm]
      refine D_t 7 rfl (fun W hW => r_ms rfl) ?_
      refine D_t 8 rfl (fun W hW => r_mi rfl) ?_
      refine D_t 9 rfl (fun W hW => r_slices_h Tryz.underlying9 rfl rfl (by omega) (by omega)) ?_
      rw [show s.extract 0 ((i : Int).toNat) = a from ha.symm]
      refine D_ev 10 (by kernel_rfl) rfl ?_
      refine L_call (.plain rfl) rfl rfl (r_call Tryz.func49 rfl rfl rfl (by rfl)) (rclass_walk a _ (by omega)) ?_
      rintro v26 w3 ⟨rfl, c3⟩
      have hz3 := c3.size
      refine L_nil ?_
      refine heldK (by trivial) (fun hS => ?_)
      refine D_t 11 rfl (fun W hW => r_mb rfl) ?_
      refine D_caseb (d := 27) rfl (fun h27 => ?_) (fun h27 => ?_)
      · refine D_g 12 rfl (fun W hW => r_ms rfl) ?_
        refine D_g 13 rfl (fun W hW => r_mi rfl) ?_
        refine D_g 14 rfl (fun W hW => r_add rfl rfl (by first | exact wr_i64 (by omega) | rfl)) ?_
        refine D_g 15 rfl (fun W hW => r_slices_l Tryz.underlying9 rfl rfl (by omega) (by omega)) ?_
        rw [show s.extract (((i : Int) + 1).toNat) s.size = d from hdd.symm]
        refine D_ev 16 (by kernel_rfl) rfl ?_
        refine L_call (.yes 11 true rfl rfl) rfl rfl (r_call Tryz.func72 rfl rfl rfl (by rfl)) (rmem_use d _ (by omega)) ?_
        rintro v32 w4 ⟨rfl, c4⟩
        have hz4 := c4.size
        refine L_nil ?_
        refine heldK (by trivial) (fun hS => ?_)
        refine D_t 17 rfl (fun W hW => r_pt rfl rfl) ?_
        refine D_t 18 rfl (fun W hW => r_as rfl) ?_
        refine D_t 19 rfl (fun W hW => r_as rfl) ?_
        refine D_t 20 rfl (fun W hW => r_ab rfl) ?_
        refine D_done (by kernel_rfl) ?_
        refine W_ret ?_
        refine ret3 (u := .string _) (v := .string _) (x := .bool _) rfl rfl rfl rfl ?_
        refine ⟨?_, Ch.au⟩
        first
        | (have hdn := dot_no (s := s) (fun j hj => hn j (by omega))
           have hp : partsO s = none := by unfold partsO; rw [hdn]; exact if_neg (fun h => by have := h.1; simp at this)
           exact ⟨_, _, by rw [hp]; rfl, fun p h => by rw [hp] at h; cases h⟩)
        | (refine ⟨a, d, ?_, fun p h => ?_⟩
           · rw [hp]
             by_cases hc : classP a <;> by_cases hm : memP d <;> simp_all
           · rw [hp] at h
             split at h
             · injection h with h; exact h.symm
             · cases h)
      · refine D_ps 12 rfl ?_
        refine D_ps 13 rfl ?_
        refine D_ps 14 rfl ?_
        refine D_ps 15 rfl ?_
        refine D_ps 16 rfl ?_
        refine D_t 17 rfl (fun W hW => r_pf rfl rfl) ?_
        refine D_t 18 rfl (fun W hW => r_as rfl) ?_
        refine D_t 19 rfl (fun W hW => r_as rfl) ?_
        refine D_t 20 rfl (fun W hW => r_ab rfl) ?_
        refine D_done (by kernel_rfl) ?_
        refine W_ret ?_
        refine ret3 (u := .string _) (v := .string _) (x := .bool _) rfl rfl rfl rfl ?_
        refine ⟨?_, Ch.au⟩
        first
        | (have hdn := dot_no (s := s) (fun j hj => hn j (by omega))
           have hp : partsO s = none := by unfold partsO; rw [hdn]; exact if_neg (fun h => by have := h.1; simp at this)
           exact ⟨_, _, by rw [hp]; rfl, fun p h => by rw [hp] at h; cases h⟩)
        | (refine ⟨a, d, ?_, fun p h => ?_⟩
           · rw [hp]
             by_cases hc : classP a <;> by_cases hm : memP d <;> simp_all
           · rw [hp] at h
             split at h
             · injection h with h; exact h.symm
             · cases h)
    · refine W_skip ?_
      refine W_region ?_
      refine L_r (r_mi rfl) ?_
      refine L_r (r_add rfl rfl (by first | exact wr_i64 (by omega) | rfl)) ?_
      refine L_r (r_ai rfl) ?_
      refine L_nil ?_
      refine ⟨⟨fx2, trivial⟩, _, ?_, i + 1, rfl, ?_, rfl⟩
      · omega
      refine ⟨by omega, fun j hj => ?_, Ch.au⟩
      rcases Nat.lt_or_ge j i with h | h
      · exact hn j h
      · have e : j = i := by omega
        subst e; omega
  · refine W_exit ?_
    repeat (first | refine blk_hit ?_ | refine blk_miss rfl ?_)
    refine W_seq ?_
    refine W_region ?_
    refine L_r (r_as rfl) ?_
    refine L_r (r_as rfl) ?_
    refine L_r (r_ab rfl) ?_
    refine L_nil ?_
    refine W_ret ?_
    refine ret3 (u := .string _) (v := .string _) (x := .bool _) rfl rfl rfl rfl ?_
    refine ⟨?_, Ch.au⟩
    first
    | (have hdn := dot_no (s := s) (fun j hj => hn j (by omega))
       have hp : partsO s = none := by unfold partsO; rw [hdn]; exact if_neg (fun h => by have := h.1; simp at this)
       exact ⟨_, _, by rw [hp]; rfl, fun p h => by rw [hp] at h; cases h⟩)
    | (refine ⟨a, d, ?_, fun p h => ?_⟩
       · rw [hp]
         by_cases hc : classP a <;> by_cases hm : memP d <;> simp_all
       · rw [hp] at h
         split at h
         · injection h with h; exact h.symm
         · cases h)
end Go.Proofs.YtioonbfinnigpaaGreatDoor

