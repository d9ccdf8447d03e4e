/- Kinds: arrays of them, and members; walked. -/
import Derived.Test.YtioonbfinnigpaaGreatDoorDocN
import Derived.Test.YtioonbfinnigpaaGreatDoorShelf
namespace Go.Proofs.YtioonbfinnigpaaGreatDoor
open Go Go.RowKit
set_option linter.unusedVariables false
set_option linter.unusedSimpArgs false
set_option maxRecDepth 100000
theorem nw_drewN (w : World) (n : Nat) : Nw w (w.drewN n) := ⟨rfl, rfl, rfl, Nat.le_refl _, fun _ _ _ => rfl⟩
theorem hsuf_use (s p : ByteArray) (w : World) (hs : s.size ≤ 1000000000) : Does Tryz.prog 117 #[.string s, .string p] w (fun r w' => r = .bool (Lib.hasSuffix (bs s) (bs p)) ∧ w' = w) :=
  Calls.mono (Any.strings_HasSuffix Tryz.laysHasSuffix s p w (by omega)) fun _ _ ⟨e, b⟩ => ⟨_, e, rfl, b⟩
theorem tsuf_use (s p : ByteArray) (w : World) (hs : s.size ≤ 1000000000) : Does Tryz.prog 118 #[.string s, .string p] w (fun r w' => r = .string (sb (Lib.trimSuffix (bs s) (bs p))) ∧ w' = w) :=
  Calls.mono (Any.strings_TrimSuffix Tryz.laysTrimSuffix s p w (by omega)) fun _ _ ⟨e, b⟩ => ⟨_, e, rfl, b⟩
theorem cut_use (s p : ByteArray) (m : Int) (w : World) (hm : w.cell? ⟨Tryz.laysCut_ren.g 1, 0, none⟩ = some (.int .i64 m)) (hs : s.size ≤ 1000000000) : Does Tryz.prog 43 #[.string s, .string p] w (fun r w' => r = .tuple #[.string (sb (Lib.cut (bs s) (bs p)).1), .string (sb (Lib.cut (bs s) (bs p)).2.1), .bool (Lib.cut (bs s) (bs p)).2.2] ∧ Nw w w') :=
  Calls.mono (Any.strings_Cut { Tryz.laysCut with } s p m w (by omega) hm) fun _ w' ⟨e, n, b⟩ => ⟨_, e, rfl, by subst b; exact nw_drewN w n⟩
abbrev arr2 : ByteArray := { data := #[91, 93] }
def endsA (l : List UInt8) : Bool := Lib.hasSuffix l [91, 93]
theorem endsA_le {l : List UInt8} (h : endsA l = true) : 2 ≤ l.length := by
  have h' : ([91, 93] : List UInt8).isSuffixOf l = true := h
  exact (List.isSuffixOf_iff_suffix.1 h').length_le
def baseF (l : List UInt8) : List UInt8 × Nat :=
  if h : endsA l = true then ((baseF (l.take (l.length - 2))).1, (baseF (l.take (l.length - 2))).2 + 1) else (l, 0)
termination_by l.length
decreasing_by
  all_goals
    have := endsA_le h
    rw [List.length_take]; omega
theorem baseF_yes {l : List UInt8} (h : endsA l = true) : baseF l = ((baseF (l.take (l.length - 2))).1, (baseF (l.take (l.length - 2))).2 + 1) := by rw [baseF, dif_pos h]
theorem baseF_no {l : List UInt8} (h : endsA l = false) : baseF l = (l, 0) := by rw [baseF, dif_neg (by rw [h]; decide)]
theorem baseF_fact : ∀ (k : Nat) (l : List UInt8), l.length = k → 2 * (baseF l).2 ≤ l.length ∧ (baseF l).1 = l.take (l.length - 2 * (baseF l).2) := by
  intro k
  induction k using Nat.strongRecOn with
  | ind k ih =>
    intro l hl
    cases h : endsA l with
    | false => rw [baseF_no h]; exact ⟨Nat.zero_le _, by simp⟩
    | true =>
      have h2 := endsA_le h
      have hlen : (l.take (l.length - 2)).length = l.length - 2 := by rw [List.length_take]; omega
      obtain ⟨i1, i2⟩ := ih (l.length - 2) (by omega) (l.take (l.length - 2)) hlen
      rw [baseF_yes h]
      rw [hlen] at i1 i2
      refine ⟨by show 2 * (_ + 1) ≤ _; omega, ?_⟩
      show (baseF (l.take (l.length - 2))).1 = _
      rw [i2, List.take_take]
      congr 1
      show min _ _ = l.length - 2 * (_ + 1)
      omega
theorem baseF_le (l : List UInt8) : 2 * (baseF l).2 ≤ l.length := (baseF_fact _ l rfl).1
theorem baseF_take (l : List UInt8) : (baseF l).1 = l.take (l.length - 2 * (baseF l).2) := (baseF_fact _ l rfl).2
def plainP (s : ByteArray) : Prop := s = { data := #[105, 110, 116] } ∨ s = { data := #[98, 111, 111, 108] } ∨ s = { data := #[116, 101, 120, 116] }
instance (s : ByteArray) : Decidable (plainP s) := inferInstanceAs (Decidable (_ ∨ _))
def baseS (s : ByteArray) : ByteArray := sb (baseF (bs s)).1
def baseN (s : ByteArray) : Nat := (baseF (bs s)).2
def rightK (s : ByteArray) : Prop := baseN s ≤ 3 ∧ (plainP (baseS s) ∨ classP (baseS s))
instance (s : ByteArray) : Decidable (rightK s) := inferInstanceAs (Decidable (_ ∧ _))
theorem baseN_le (s : ByteArray) : 2 * baseN s ≤ s.size := by have := baseF_le (bs s); rw [bs_length] at this; exact this
theorem trim_yes {l : List UInt8} (h : endsA l = true) : Lib.trimSuffix l [91, 93] = l.take (l.length - 2) := by unfold Lib.trimSuffix; exact if_pos h
theorem base_walk (s : ByteArray) (w0 : World) (hs : s.size ≤ 1000000) : Does Tryz.prog 105 #[.string s] w0 (fun r w' => r = .tuple #[.string (baseS s), .int .i64 (baseN s : Int)] ∧ Nw w0 w') := by
  refine fn_of (n := 13) (args := [.string s]) Tryz.func105 rfl rfl rfl ?_
  refine W_seq ?_
  refine W_region ?_
  refine L_r (r_as rfl) ?_
  refine L_r (r_ai rfl) ?_
  refine L_nil ?_
  refine W_seq ?_
  refine W_region ?_
  refine L_r (r_ai rfl) ?_
  refine L_nil ?_
  refine W_seq ?_
  refine W_block ?_
  refine W_loopF [] (fun mz_ f W => ∃ (cur : ByteArray) (n : Nat), f 0 = .string cur ∧ f 4 = .int .i64 n ∧ (baseF (bs s) = ((baseF (bs cur)).1, (baseF (bs cur)).2 + n) ∧ cur.size + 2 * n = s.size ∧ Nw w0 W) ∧ mz_ = cur.size) ?_ ?_
  · refine ⟨_, s, 0, rfl, rfl, ?_, rfl⟩
    exact ⟨rfl, by omega, Ch.au⟩
  rintro m0 g0 w1 ⟨cur, n, hf0, hf4, hR0, rfl⟩
  refine W_as 0 hf0 rfl ?_
  refine W_as 4 hf4 rfl ?_
  clear hf0 hf4
  obtain ⟨hb, hsz, hnw⟩ := hR0
  have hz := hnw.size
  refine W_seq ?_
  refine W_seq ?_
  refine W_region ?_
  refine L_r (r_ms rfl) ?_
  refine L_call (.plain rfl) rfl rfl (r_call Tryz.func117 rfl rfl rfl (by rfl)) (hsuf_use cur arr2 _ (by omega)) ?_
  rintro v6 w2 ⟨rfl, rfl⟩
  refine L_nil ?_
  refine W_bool rfl (fun h6 => ?_) (fun h6 => ?_)
  · have h6' : endsA (bs cur) = true := h6
    refine W_skip ?_
    refine W_block ?_
    refine W_region ?_
    refine L_r (r_ms rfl) ?_
    refine L_call (.plain rfl) rfl rfl (r_call Tryz.func118 rfl rfl rfl (by rfl)) (tsuf_use cur arr2 _ (by omega)) ?_
    rintro v8 w3 ⟨rfl, rfl⟩
    refine L_r (r_mi rfl) ?_
    refine L_r (r_add rfl rfl (by first | exact wr_i64 (by omega) | rfl)) ?_
    refine L_r (r_as rfl) ?_
    refine L_r (r_ai rfl) ?_
    refine L_nil ?_
    refine ⟨trivial, _, ?_, sb (Lib.trimSuffix (bs cur) [91, 93]), n + 1, rfl, rfl, ?_, rfl⟩
    · rw [sb_size, trim_yes h6, List.length_take, bs_length]; have := endsA_le h6; rw [bs_length] at this; omega
    have h2 := endsA_le h6
    rw [bs_length] at h2
    refine ⟨?_, by rw [sb_size, trim_yes h6, List.length_take, bs_length]; omega, Ch.au⟩
    rw [hb, bs_sb, trim_yes h6, baseF_yes h6]
    exact Prod.ext rfl (by show _ + 1 + n = _ + (n + 1); omega)
  · refine W_exit ?_
    repeat (first | refine blk_hit ?_ | refine blk_miss rfl ?_)
    refine W_seq ?_
    refine W_region ?_
    refine L_r (r_ms rfl) ?_
    refine L_r (r_mi rfl) ?_
    refine L_r (r_as rfl) ?_
    refine L_r (r_ai rfl) ?_
    refine L_nil ?_
    refine W_ret ?_
    refine ret2 (u := .string _) (v := .int _ _) rfl rfl rfl ?_
    have h6' : endsA (bs cur) = false := h6
    rw [baseF_no h6'] at hb
    refine ⟨?_, Ch.au⟩
    unfold baseS baseN
    rw [hb]
    show Value.tuple #[.string cur, .int .i64 n] = Value.tuple #[.string (sb (bs cur)), .int .i64 ((0 + n : Nat) : Int)]
    rw [sb_bs, Nat.zero_add]
theorem plain_walk (s : ByteArray) (w0 : World) : Does Tryz.prog 84 #[.string s] w0 (fun r w' => r = .bool (decide (plainP s)) ∧ w' = w0) := by
  refine fn_of (n := 13) (args := [.string s]) Tryz.func84 rfl rfl rfl ?_
  refine W_seq ?_
  refine W_region ?_
  refine L_r (r_ab rfl) ?_
  refine L_nil ?_
  refine W_seq ?_
  refine W_region ?_
  refine L_r (r_ms rfl) ?_
  refine L_r (r_eqls rfl rfl) ?_
  refine L_r (r_mb rfl) ?_
  refine L_case (d := 5) rfl (fun h5 => ?_) (fun h5 => ?_)
  · refine L_ps ?_
    refine L_ps ?_
    refine L_r (r_pt rfl rfl) ?_
    refine L_r (r_mb rfl) ?_
    refine L_ps ?_
    refine L_ps ?_
    refine L_r (r_pt rfl rfl) ?_
    refine L_r (r_ab rfl) ?_
    refine L_nil ?_
    refine W_ret ?_
    refine ret1 (v := .bool _) rfl rfl ?_
    refine ⟨?_, rfl⟩
    first
    | (apply bool_dec; unfold plainP; exact ⟨fun h => .inr (.inr h), fun h => by rcases h with h | h | h; exact absurd h (by assumption); exact absurd h (by assumption); exact h⟩)
    | exact bool_t (.inl (by assumption))
    | exact bool_t (.inr (.inl (by assumption)))
    | exact bool_t (.inr (.inr (by assumption)))
  · refine L_g (r_ms rfl) ?_
    refine L_g (r_eqls rfl rfl) ?_
    refine L_r (r_pf rfl rfl) ?_
    refine L_r (r_mb rfl) ?_
    refine L_case (d := 9) rfl (fun h9 => ?_) (fun h9 => ?_)
    · refine L_ps ?_
      refine L_ps ?_
      refine L_r (r_pt rfl rfl) ?_
      refine L_r (r_ab rfl) ?_
      refine L_nil ?_
      refine W_ret ?_
      refine ret1 (v := .bool _) rfl rfl ?_
      refine ⟨?_, rfl⟩
      first
      | (apply bool_dec; unfold plainP; exact ⟨fun h => .inr (.inr h), fun h => by rcases h with h | h | h; exact absurd h (by assumption); exact absurd h (by assumption); exact h⟩)
      | exact bool_t (.inl (by assumption))
      | exact bool_t (.inr (.inl (by assumption)))
      | exact bool_t (.inr (.inr (by assumption)))
    · refine L_g (r_ms rfl) ?_
      refine L_g (r_eqls rfl rfl) ?_
      refine L_r (r_pf rfl rfl) ?_
      refine L_r (r_ab rfl) ?_
      refine L_nil ?_
      refine W_ret ?_
      refine ret1 (v := .bool _) rfl rfl ?_
      refine ⟨?_, rfl⟩
      first
      | (apply bool_dec; unfold plainP; exact ⟨fun h => .inr (.inr h), fun h => by rcases h with h | h | h; exact absurd h (by assumption); exact absurd h (by assumption); exact h⟩)
      | exact bool_t (.inl (by assumption))
      | exact bool_t (.inr (.inl (by assumption)))
      | exact bool_t (.inr (.inr (by assumption)))
theorem rightk_walk (s : ByteArray) (w0 : World) (hs : s.size ≤ 1000000) : Does Tryz.prog 83 #[.string s] w0 (fun r w' => r = .bool (decide (rightK s)) ∧ Nw w0 w') := by
  refine fn_of (n := 20) (args := [.string s]) Tryz.func83 rfl rfl rfl ?_
  refine W_seq ?_
  refine W_region ?_
  refine L_r (r_ab rfl) ?_
  refine L_nil ?_
  refine W_seq ?_
  refine W_region ?_
  refine L_r (r_ms rfl) ?_
  refine L_call (.plain rfl) rfl rfl (r_call Tryz.func105 rfl rfl rfl (by rfl)) (base_walk s _ hs) ?_
  rintro v7 w1 ⟨rfl, c1⟩
  have hz1 := c1.size
  refine L_r (r_mv) ?_
  refine L_r (r_ext2_0 rfl) ?_
  refine L_r (r_ext2_1 rfl) ?_
  refine L_r (r_as rfl) ?_
  refine L_r (r_ai rfl) ?_
  refine L_nil ?_
  refine W_seq ?_
  refine W_region ?_
  refine L_r (r_mi rfl) ?_
  refine L_r (r_leq rfl rfl) ?_
  refine L_r (r_mb rfl) ?_
  refine L_case (d := 12) rfl (fun h12 => ?_) (fun h12 => ?_)
  · refine L_g (r_ms rfl) ?_
    refine L_call (.yes 2 true rfl rfl) rfl rfl (r_call Tryz.func84 rfl rfl rfl (by rfl)) (plain_walk (baseS s) _) ?_
    rintro v14 w2 ⟨rfl, rfl⟩
    refine L_g (r_mb rfl) ?_
    refine L_caseb (d := 15) rfl (fun h15 => ?_) (fun h15 => ?_)
    · refine L_ps ?_
      refine L_ps ?_
      refine L_g (r_pt rfl rfl) ?_
      refine L_r (r_pt rfl rfl) ?_
      refine L_r (r_ab rfl) ?_
      refine L_nil ?_
      refine W_ret ?_
      refine ret1 (v := .bool _) rfl rfl ?_
      refine ⟨?_, Ch.au⟩
      (try simp only [decide_eq_true_eq, decide_eq_false_iff_not] at *)
      first
      | exact bool_t ⟨by omega, .inl (by assumption)⟩
      | exact bool_f (fun h => by have := h.1; omega)
      | exact bool_dec ⟨fun h => ⟨by omega, .inr h⟩, fun h => h.2.resolve_left (by assumption)⟩
    · refine L_g (r_ms rfl) ?_
      refine L_call (.yes 5 false rfl rfl) rfl rfl (r_call Tryz.func82 rfl rfl rfl (by rfl)) (class_walk (baseS s) _) ?_
      rintro v17 w3 ⟨rfl, c3⟩
      have hz3 := c3.size
      refine L_g (r_pf rfl rfl) ?_
      refine L_r (r_pt rfl rfl) ?_
      refine L_r (r_ab rfl) ?_
      refine L_nil ?_
      refine W_ret ?_
      refine ret1 (v := .bool _) rfl rfl ?_
      refine ⟨?_, Ch.au⟩
      (try simp only [decide_eq_true_eq, decide_eq_false_iff_not] at *)
      first
      | exact bool_t ⟨by omega, .inl (by assumption)⟩
      | exact bool_f (fun h => by have := h.1; omega)
      | exact bool_dec ⟨fun h => ⟨by omega, .inr h⟩, fun h => h.2.resolve_left (by assumption)⟩
  · refine L_ps ?_
    refine L_ps ?_
    refine L_ps ?_
    refine L_pu ?_
    refine L_pu ?_
    refine L_ps ?_
    refine L_r (r_pf rfl rfl) ?_
    refine L_r (r_ab rfl) ?_
    refine L_nil ?_
    refine W_ret ?_
    refine ret1 (v := .bool _) rfl rfl ?_
    refine ⟨?_, Ch.au⟩
    (try simp only [decide_eq_true_eq, decide_eq_false_iff_not] at *)
    first
    | exact bool_t ⟨by omega, .inl (by assumption)⟩
    | exact bool_f (fun h => by have := h.1; omega)
    | exact bool_dec ⟨fun h => ⟨by omega, .inr h⟩, fun h => h.2.resolve_left (by assumption)⟩
def deepN (s : ByteArray) : Nat := if rightK s then baseN s else 0
theorem deep_walk (s : ByteArray) (w0 : World) (hs : s.size ≤ 1000000) : Does Tryz.prog 85 #[.string s] w0 (fun r w' => r = .int .i64 (deepN s : Int) ∧ Nw w0 w') := by
  refine fn_of (n := 14) (args := [.string s]) Tryz.func85 rfl rfl rfl ?_
  refine W_seq ?_
  refine W_region ?_
  refine L_r (r_ai rfl) ?_
  refine L_nil ?_
  refine W_seq ?_
  refine W_region ?_
  refine L_r (r_ms rfl) ?_
  refine L_call (.plain rfl) rfl rfl (r_call Tryz.func105 rfl rfl rfl (by rfl)) (base_walk s _ hs) ?_
  rintro v7 w1 ⟨rfl, c1⟩
  have hz1 := c1.size
  refine L_r (r_mv) ?_
  refine L_r (r_ext2_0 rfl) ?_
  refine L_r (r_ext2_1 rfl) ?_
  refine L_r (r_as rfl) ?_
  refine L_r (r_ai rfl) ?_
  refine L_nil ?_
  refine W_seq ?_
  refine W_seq ?_
  refine W_region ?_
  refine L_r (r_ms rfl) ?_
  refine L_call (.plain rfl) rfl rfl (r_call Tryz.func83 rfl rfl rfl (by rfl)) (rightk_walk s _ hs) ?_
  rintro v11 w2 ⟨rfl, c2⟩
  have hz2 := c2.size
  refine L_r (r_not rfl) ?_
  refine L_nil ?_
  refine W_bool rfl (fun h12 => ?_) (fun h12 => ?_)
  · refine W_seq ?_
    refine W_region ?_
    refine L_r (r_ai rfl) ?_
    refine L_nil ?_
    refine W_ret ?_
    refine ret1 (v := .int _ _) rfl rfl ?_
    refine ⟨?_, Ch.au⟩
    unfold deepN
    first
    | (rw [if_neg (by simpa using h12)]; rfl)
    | (rw [if_pos (by simpa using h12)])
  · refine W_skip ?_
    refine W_seq ?_
    refine W_region ?_
    refine L_r (r_mi rfl) ?_
    refine L_r (r_ai rfl) ?_
    refine L_nil ?_
    refine W_ret ?_
    refine ret1 (v := .int _ _) rfl rfl ?_
    refine ⟨?_, Ch.au⟩
    unfold deepN
    first
    | (rw [if_neg (by simpa using h12)]; rfl)
    | (rw [if_pos (by simpa using h12)])
end Go.Proofs.YtioonbfinnigpaaGreatDoor

