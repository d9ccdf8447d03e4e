/- Which instructions may be; walked. -/
import Derived.Test.YtioonbfinnigpaaGreatDoorCode2
namespace Go.Proofs.YtioonbfinnigpaaGreatDoor
open Go Go.RowKit
set_option linter.unusedVariables false
set_option linter.unusedSimpArgs false
set_option maxRecDepth 100000
structure Ins where
  op : ByteArray
  n : Int
  s : ByteArray
abbrev insl (x : Ins) : List Value := [.string x.op, .int .i64 x.n, .string x.s]
abbrev Ins.v (x : Ins) : Value := .agg #[.string x.op, .int .i64 x.n, .string x.s]
def noNl (s : ByteArray) : Prop := Lib.contains (bs s) [10] = false
instance (s : ByteArray) : Decidable (noNl s) := inferInstanceAs (Decidable (_ = _))
def wordP (s : ByteArray) : Prop := s.size ≤ 64 ∧ Lib.validD s.data.toList = true ∧ noNl s
instance (s : ByteArray) : Decidable (wordP s) := inferInstanceAs (Decidable (_ ∧ _))
def textP (n s : ByteArray) : Prop :=
  if n = { data := #[119, 111, 114, 100] } then wordP s
  else if n = { data := #[110, 101, 119] } then classP s
  else if n = { data := #[105, 115] } ∨ n = { data := #[99, 97, 115, 116] } then rightK s ∧ ¬ plainP s
  else if n = { data := #[97, 114, 114, 97, 121] } then rightK s ∧ deepN s < 3
  else (partsO s).isSome = true
instance (n s : ByteArray) : Decidable (textP n s) := by
  unfold textP
  infer_instance
theorem contains_use (s : ByteArray) (w : World) : Does Tryz.prog 81 #[.string s, .string { data := #[10] }] w (fun r w' => r = .bool (Lib.contains (bs s) [10]) ∧ w' = w) :=
  Calls.mono (Any.strings_Contains_one { Tryz.laysContains with } s 10 w) fun _ _ ⟨e, b⟩ => ⟨_, e, congrArg Value.bool (by unfold Lib.contains; rw [Lib.index_one]; rfl), b⟩
theorem parts_use (base : Nat) (s : ByteArray) (w0 : World) (hs : s.size ≤ 1000000) (hG : Gv base w0) : Does Tryz.prog 86 #[.string s] w0 (fun r w' => ∃ a b e, r = .tuple #[.string a, .string b, .int .i64 e] ∧ (e = 0 ↔ (partsO s).isSome = true) ∧ Nw w0 w') := by
  obtain ⟨m, hm⟩ := hG.mx
  refine (parts_walk s m w0 hs hm).mono ?_
  rintro r w' ⟨rfl, c⟩
  cases h : partsO s with
  | none => exact ⟨_, _, 30, rfl, by simp, c⟩
  | some p => exact ⟨p.1, p.2, 0, rfl, by simp, c⟩
theorem tp_word {n s : ByteArray} (h : n = { data := #[119, 111, 114, 100] }) : textP n s = wordP s := if_pos h
theorem tp_new {n s : ByteArray} (h1 : ¬ n = { data := #[119, 111, 114, 100] }) (h : n = { data := #[110, 101, 119] }) : textP n s = classP s := (if_neg h1).trans (if_pos h)
theorem tp_is {n s : ByteArray} (h1 : ¬ n = { data := #[119, 111, 114, 100] }) (h2 : ¬ n = { data := #[110, 101, 119] }) (h : n = { data := #[105, 115] } ∨ n = { data := #[99, 97, 115, 116] }) : textP n s = (rightK s ∧ ¬ plainP s) := (if_neg h1).trans ((if_neg h2).trans (if_pos h))
theorem tp_array {n s : ByteArray} (h1 : ¬ n = { data := #[119, 111, 114, 100] }) (h2 : ¬ n = { data := #[110, 101, 119] }) (h3 : ¬ n = { data := #[105, 115] }) (h4 : ¬ n = { data := #[99, 97, 115, 116] }) (h : n = { data := #[97, 114, 114, 97, 121] }) : textP n s = (rightK s ∧ deepN s < 3) := (if_neg h1).trans ((if_neg h2).trans ((if_neg (by rintro (k | k) <;> contradiction)).trans (if_pos h)))
theorem tp_else {n s : ByteArray} (h1 : ¬ n = { data := #[119, 111, 114, 100] }) (h2 : ¬ n = { data := #[110, 101, 119] }) (h3 : ¬ n = { data := #[105, 115] }) (h4 : ¬ n = { data := #[99, 97, 115, 116] }) (h : ¬ n = { data := #[97, 114, 114, 97, 121] }) : textP n s = ((partsO s).isSome = true) := (if_neg h1).trans ((if_neg h2).trans ((if_neg (by rintro (k | k) <;> contradiction)).trans (if_neg h)))
theorem dec_b {b : Bool} {p : Prop} [Decidable p] (h : b = true ↔ p) : (Value.bool b) = .bool (decide p) := by
  cases b with
  | true => rw [decide_eq_true (h.1 rfl)]
  | false => rw [decide_eq_false (fun k => by have := h.2 k; cases this)]
theorem optext_walk (base : Nat) (n s : ByteArray) (w0 : World) (hG : Gv base w0) (hb : base ≤ w0.heap.size) (hs : s.size ≤ 1000000) : Does Tryz.prog 68 #[.string n, .string s] w0 (fun r w' => r = .bool (decide (textP n s)) ∧ Nw w0 w') := by
  refine fn_of (n := 54) (args := [.string n, .string s]) Tryz.func68 rfl rfl rfl ?_
  refine W_seq ?_
  refine W_region ?_
  refine L_r (r_ab rfl) ?_
  refine L_nil ?_
  refine W_seq ?_
  refine W_seq ?_
  refine W_region ?_
  refine L_r (r_ms rfl) ?_
  refine L_nil ?_
  refine W_block ?_
  refine W_seq ?_
  refine W_region ?_
  refine L_r (r_eqls rfl rfl) ?_
  refine L_r (r_ab rfl) ?_
  refine L_nil ?_
  refine W_if rfl (fun h9 => ?_) (fun h9 => ?_)
  · refine W_seq ?_
    refine W_region ?_
    refine L_r (r_ms rfl) ?_
    refine L_r (r_lens Tryz.underlying9 rfl) ?_
    refine L_r (r_leq rfl rfl) ?_
    refine L_r (r_mb rfl) ?_
    refine L_case (d := 14) rfl (fun h14 => ?_) (fun h14 => ?_)
    · refine L_g (r_ms rfl) ?_
      refine L_call (.yes 3 true rfl rfl) rfl rfl (r_call Tryz.func73 rfl rfl rfl (by rfl)) (valid_walk base s _ (hG.nw Ch.au hb).tab (by omega)) ?_
      rintro v16 w1 ⟨rfl, c1⟩
      have hz1 := c1.size
      refine L_r (r_pt rfl rfl) ?_
      refine L_r (r_mb rfl) ?_
      refine L_caseb (d := 18) rfl (fun h18 => ?_) (fun h18 => ?_)
      · refine L_g (r_ms rfl) ?_
        refine L_call (.yes 7 true rfl rfl) rfl rfl (r_call Tryz.func81 rfl rfl rfl (by rfl)) (contains_use s _) ?_
        rintro v20 w2 ⟨rfl, rfl⟩
        refine L_g (r_not rfl) ?_
        refine L_r (r_pt rfl rfl) ?_
        refine L_r (r_ab rfl) ?_
        refine L_nil ?_
        refine W_ret ?_
        refine ret1 (v := .bool _) rfl rfl ?_
        refine ⟨?_, Ch.au⟩
        (try simp only [decide_eq_true_eq, decide_eq_false_iff_not] at *)
        first
        | contradiction
        | exact bool_dec (he.trans (iff_of_eq (tp_else (by assumption) (by assumption) (by assumption) (by assumption) (by assumption)).symm))
        | exact bool_dec (iff_of_eq (tp_new (by assumption) (by assumption)).symm)
        | exact bool_f (by rw [tp_word (by assumption)]; rintro ⟨k1, k2, k3⟩; first | omega | simp_all)
        | exact dec_b (by rw [tp_word (by assumption)]; unfold wordP noNl; constructor; (intro k; exact ⟨by omega, by assumption, by simpa using k⟩); (rintro ⟨k1, k2, k3⟩; simpa using k3))
        | exact bool_f (by rw [tp_is (by assumption) (by assumption) (by first | exact .inl (by assumption) | exact .inr (by assumption))]; rintro ⟨k1, k2⟩; contradiction)
        | exact dec_b (by rw [tp_is (by assumption) (by assumption) (by first | exact .inl (by assumption) | exact .inr (by assumption))]; constructor; (intro k; exact ⟨by assumption, by simpa using k⟩); (rintro ⟨k1, k2⟩; simpa using k2))
        | exact bool_f (by rw [tp_array (by assumption) (by assumption) (by assumption) (by assumption) (by assumption)]; rintro ⟨k1, k2⟩; contradiction)
        | exact bool_dec (by rw [tp_array (by assumption) (by assumption) (by assumption) (by assumption) (by assumption)]; exact ⟨fun k => ⟨by assumption, by omega⟩, fun k => by have := k.2; omega⟩)
      · refine L_ps ?_
        refine L_ps ?_
        refine L_ps ?_
        refine L_r (r_pf rfl rfl) ?_
        refine L_r (r_ab rfl) ?_
        refine L_nil ?_
        refine W_ret ?_
        refine ret1 (v := .bool _) rfl rfl ?_
        refine ⟨?_, Ch.au⟩
        (try simp only [decide_eq_true_eq, decide_eq_false_iff_not] at *)
        first
        | contradiction
        | exact bool_dec (he.trans (iff_of_eq (tp_else (by assumption) (by assumption) (by assumption) (by assumption) (by assumption)).symm))
        | exact bool_dec (iff_of_eq (tp_new (by assumption) (by assumption)).symm)
        | exact bool_f (by rw [tp_word (by assumption)]; rintro ⟨k1, k2, k3⟩; first | omega | simp_all)
        | exact dec_b (by rw [tp_word (by assumption)]; unfold wordP noNl; constructor; (intro k; exact ⟨by omega, by assumption, by simpa using k⟩); (rintro ⟨k1, k2, k3⟩; simpa using k3))
        | exact bool_f (by rw [tp_is (by assumption) (by assumption) (by first | exact .inl (by assumption) | exact .inr (by assumption))]; rintro ⟨k1, k2⟩; contradiction)
        | exact dec_b (by rw [tp_is (by assumption) (by assumption) (by first | exact .inl (by assumption) | exact .inr (by assumption))]; constructor; (intro k; exact ⟨by assumption, by simpa using k⟩); (rintro ⟨k1, k2⟩; simpa using k2))
        | exact bool_f (by rw [tp_array (by assumption) (by assumption) (by assumption) (by assumption) (by assumption)]; rintro ⟨k1, k2⟩; contradiction)
        | exact bool_dec (by rw [tp_array (by assumption) (by assumption) (by assumption) (by assumption) (by assumption)]; exact ⟨fun k => ⟨by assumption, by omega⟩, fun k => by have := k.2; omega⟩)
    · refine L_ps ?_
      refine L_ps ?_
      refine L_r (r_pf rfl rfl) ?_
      refine L_r (r_mb rfl) ?_
      refine L_ps ?_
      refine L_ps ?_
      refine L_ps ?_
      refine L_r (r_pf rfl rfl) ?_
      refine L_r (r_ab rfl) ?_
      refine L_nil ?_
      refine W_ret ?_
      refine ret1 (v := .bool _) rfl rfl ?_
      refine ⟨?_, Ch.au⟩
      (try simp only [decide_eq_true_eq, decide_eq_false_iff_not] at *)
      first
      | contradiction
      | exact bool_dec (he.trans (iff_of_eq (tp_else (by assumption) (by assumption) (by assumption) (by assumption) (by assumption)).symm))
      | exact bool_dec (iff_of_eq (tp_new (by assumption) (by assumption)).symm)
      | exact bool_f (by rw [tp_word (by assumption)]; rintro ⟨k1, k2, k3⟩; first | omega | simp_all)
      | exact dec_b (by rw [tp_word (by assumption)]; unfold wordP noNl; constructor; (intro k; exact ⟨by omega, by assumption, by simpa using k⟩); (rintro ⟨k1, k2, k3⟩; simpa using k3))
      | exact bool_f (by rw [tp_is (by assumption) (by assumption) (by first | exact .inl (by assumption) | exact .inr (by assumption))]; rintro ⟨k1, k2⟩; contradiction)
      | exact dec_b (by rw [tp_is (by assumption) (by assumption) (by first | exact .inl (by assumption) | exact .inr (by assumption))]; constructor; (intro k; exact ⟨by assumption, by simpa using k⟩); (rintro ⟨k1, k2⟩; simpa using k2))
      | exact bool_f (by rw [tp_array (by assumption) (by assumption) (by assumption) (by assumption) (by assumption)]; rintro ⟨k1, k2⟩; contradiction)
      | exact bool_dec (by rw [tp_array (by assumption) (by assumption) (by assumption) (by assumption) (by assumption)]; exact ⟨fun k => ⟨by assumption, by omega⟩, fun k => by have := k.2; omega⟩)
  · refine W_seq ?_
    refine W_region ?_
    refine L_r (r_eqls rfl rfl) ?_
    refine L_r (r_ab rfl) ?_
    refine L_nil ?_
    refine W_if rfl (fun h23 => ?_) (fun h23 => ?_)
    · refine W_seq ?_
      refine W_region ?_
      refine L_r (r_ms rfl) ?_
      refine L_call (.plain rfl) rfl rfl (r_call Tryz.func82 rfl rfl rfl (by rfl)) (class_walk s _) ?_
      rintro v26 w3 ⟨rfl, c3⟩
      have hz3 := c3.size
      refine L_r (r_ab rfl) ?_
      refine L_nil ?_
      refine W_ret ?_
      refine ret1 (v := .bool _) rfl rfl ?_
      refine ⟨?_, Ch.au⟩
      (try simp only [decide_eq_true_eq, decide_eq_false_iff_not] at *)
      first
      | contradiction
      | exact bool_dec (he.trans (iff_of_eq (tp_else (by assumption) (by assumption) (by assumption) (by assumption) (by assumption)).symm))
      | exact bool_dec (iff_of_eq (tp_new (by assumption) (by assumption)).symm)
      | exact bool_f (by rw [tp_word (by assumption)]; rintro ⟨k1, k2, k3⟩; first | omega | simp_all)
      | exact dec_b (by rw [tp_word (by assumption)]; unfold wordP noNl; constructor; (intro k; exact ⟨by omega, by assumption, by simpa using k⟩); (rintro ⟨k1, k2, k3⟩; simpa using k3))
      | exact bool_f (by rw [tp_is (by assumption) (by assumption) (by first | exact .inl (by assumption) | exact .inr (by assumption))]; rintro ⟨k1, k2⟩; contradiction)
      | exact dec_b (by rw [tp_is (by assumption) (by assumption) (by first | exact .inl (by assumption) | exact .inr (by assumption))]; constructor; (intro k; exact ⟨by assumption, by simpa using k⟩); (rintro ⟨k1, k2⟩; simpa using k2))
      | exact bool_f (by rw [tp_array (by assumption) (by assumption) (by assumption) (by assumption) (by assumption)]; rintro ⟨k1, k2⟩; contradiction)
      | exact bool_dec (by rw [tp_array (by assumption) (by assumption) (by assumption) (by assumption) (by assumption)]; exact ⟨fun k => ⟨by assumption, by omega⟩, fun k => by have := k.2; omega⟩)
    · refine W_seq ?_
      refine W_seq ?_
      refine W_region ?_
      refine L_r (r_eqls rfl rfl) ?_
      refine L_r (r_ab rfl) ?_
      refine L_nil ?_
      refine W_if rfl (fun h27 => ?_) (fun h27 => ?_)
      · refine W_skip ?_
        refine W_if rfl (fun h27 => ?_) (fun h27 => ?_)
        · refine W_seq ?_
          refine W_region ?_
          refine L_r (r_ms rfl) ?_
          refine L_call (.plain rfl) rfl rfl (r_call Tryz.func83 rfl rfl rfl (by rfl)) (rightk_walk s _ hs) ?_
          rintro v31 w4 ⟨rfl, c4⟩
          have hz4 := c4.size
          refine L_r (r_mb rfl) ?_
          refine L_caseb (d := 32) rfl (fun h32 => ?_) (fun h32 => ?_)
          · refine L_g (r_ms rfl) ?_
            refine L_call (.yes 2 true rfl rfl) rfl rfl (r_call Tryz.func84 rfl rfl rfl (by rfl)) (plain_walk s _) ?_
            rintro v34 w5 ⟨rfl, rfl⟩
            refine L_g (r_not rfl) ?_
            refine L_r (r_pt rfl rfl) ?_
            refine L_r (r_ab rfl) ?_
            refine L_nil ?_
            refine W_ret ?_
            refine ret1 (v := .bool _) rfl rfl ?_
            refine ⟨?_, Ch.au⟩
            (try simp only [decide_eq_true_eq, decide_eq_false_iff_not] at *)
            first
            | contradiction
            | exact bool_dec (he.trans (iff_of_eq (tp_else (by assumption) (by assumption) (by assumption) (by assumption) (by assumption)).symm))
            | exact bool_dec (iff_of_eq (tp_new (by assumption) (by assumption)).symm)
            | exact bool_f (by rw [tp_word (by assumption)]; rintro ⟨k1, k2, k3⟩; first | omega | simp_all)
            | exact dec_b (by rw [tp_word (by assumption)]; unfold wordP noNl; constructor; (intro k; exact ⟨by omega, by assumption, by simpa using k⟩); (rintro ⟨k1, k2, k3⟩; simpa using k3))
            | exact bool_f (by rw [tp_is (by assumption) (by assumption) (by first | exact .inl (by assumption) | exact .inr (by assumption))]; rintro ⟨k1, k2⟩; contradiction)
            | exact dec_b (by rw [tp_is (by assumption) (by assumption) (by first | exact .inl (by assumption) | exact .inr (by assumption))]; constructor; (intro k; exact ⟨by assumption, by simpa using k⟩); (rintro ⟨k1, k2⟩; simpa using k2))
            | exact bool_f (by rw [tp_array (by assumption) (by assumption) (by assumption) (by assumption) (by assumption)]; rintro ⟨k1, k2⟩; contradiction)
            | exact bool_dec (by rw [tp_array (by assumption) (by assumption) (by assumption) (by assumption) (by assumption)]; exact ⟨fun k => ⟨by assumption, by omega⟩, fun k => by have := k.2; omega⟩)
          · refine L_ps ?_
            refine L_ps ?_
            refine L_ps ?_
            refine L_r (r_pf rfl rfl) ?_
            refine L_r (r_ab rfl) ?_
            refine L_nil ?_
            refine W_ret ?_
            refine ret1 (v := .bool _) rfl rfl ?_
            refine ⟨?_, Ch.au⟩
            (try simp only [decide_eq_true_eq, decide_eq_false_iff_not] at *)
            first
            | contradiction
            | exact bool_dec (he.trans (iff_of_eq (tp_else (by assumption) (by assumption) (by assumption) (by assumption) (by assumption)).symm))
            | exact bool_dec (iff_of_eq (tp_new (by assumption) (by assumption)).symm)
            | exact bool_f (by rw [tp_word (by assumption)]; rintro ⟨k1, k2, k3⟩; first | omega | simp_all)
            | exact dec_b (by rw [tp_word (by assumption)]; unfold wordP noNl; constructor; (intro k; exact ⟨by omega, by assumption, by simpa using k⟩); (rintro ⟨k1, k2, k3⟩; simpa using k3))
            | exact bool_f (by rw [tp_is (by assumption) (by assumption) (by first | exact .inl (by assumption) | exact .inr (by assumption))]; rintro ⟨k1, k2⟩; contradiction)
            | exact dec_b (by rw [tp_is (by assumption) (by assumption) (by first | exact .inl (by assumption) | exact .inr (by assumption))]; constructor; (intro k; exact ⟨by assumption, by simpa using k⟩); (rintro ⟨k1, k2⟩; simpa using k2))
            | exact bool_f (by rw [tp_array (by assumption) (by assumption) (by assumption) (by assumption) (by assumption)]; rintro ⟨k1, k2⟩; contradiction)
            | exact bool_dec (by rw [tp_array (by assumption) (by assumption) (by assumption) (by assumption) (by assumption)]; exact ⟨fun k => ⟨by assumption, by omega⟩, fun k => by have := k.2; omega⟩)
        · refine W_seq ?_
          refine W_region ?_
          refine L_r (r_eqls rfl rfl) ?_
          refine L_r (r_ab rfl) ?_
          refine L_nil ?_
          refine W_if rfl (fun h37 => ?_) (fun h37 => ?_)
          · refine W_seq ?_
            refine W_region ?_
            refine L_r (r_ms rfl) ?_
            refine L_call (.plain rfl) rfl rfl (r_call Tryz.func83 rfl rfl rfl (by rfl)) (rightk_walk s _ hs) ?_
            rintro v40 w6 ⟨rfl, c6⟩
            have hz6 := c6.size
            refine L_r (r_mb rfl) ?_
            refine L_caseb (d := 41) rfl (fun h41 => ?_) (fun h41 => ?_)
            · refine L_g (r_ms rfl) ?_
              refine L_call (.yes 2 true rfl rfl) rfl rfl (r_call Tryz.func85 rfl rfl rfl (by rfl)) (deep_walk s _ hs) ?_
              rintro v43 w7 ⟨rfl, c7⟩
              have hz7 := c7.size
              refine L_g (r_lss rfl rfl) ?_
              refine L_r (r_pt rfl rfl) ?_
              refine L_r (r_ab rfl) ?_
              refine L_nil ?_
              refine W_ret ?_
              refine ret1 (v := .bool _) rfl rfl ?_
              refine ⟨?_, Ch.au⟩
              (try simp only [decide_eq_true_eq, decide_eq_false_iff_not] at *)
              first
              | contradiction
              | exact bool_dec (he.trans (iff_of_eq (tp_else (by assumption) (by assumption) (by assumption) (by assumption) (by assumption)).symm))
              | exact bool_dec (iff_of_eq (tp_new (by assumption) (by assumption)).symm)
              | exact bool_f (by rw [tp_word (by assumption)]; rintro ⟨k1, k2, k3⟩; first | omega | simp_all)
              | exact dec_b (by rw [tp_word (by assumption)]; unfold wordP noNl; constructor; (intro k; exact ⟨by omega, by assumption, by simpa using k⟩); (rintro ⟨k1, k2, k3⟩; simpa using k3))
              | exact bool_f (by rw [tp_is (by assumption) (by assumption) (by first | exact .inl (by assumption) | exact .inr (by assumption))]; rintro ⟨k1, k2⟩; contradiction)
              | exact dec_b (by rw [tp_is (by assumption) (by assumption) (by first | exact .inl (by assumption) | exact .inr (by assumption))]; constructor; (intro k; exact ⟨by assumption, by simpa using k⟩); (rintro ⟨k1, k2⟩; simpa using k2))
              | exact bool_f (by rw [tp_array (by assumption) (by assumption) (by assumption) (by assumption) (by assumption)]; rintro ⟨k1, k2⟩; contradiction)
              | exact bool_dec (by rw [tp_array (by assumption) (by assumption) (by assumption) (by assumption) (by assumption)]; exact ⟨fun k => ⟨by assumption, by omega⟩, fun k => by have := k.2; omega⟩)
            · refine L_ps ?_
              refine L_ps ?_
              refine L_ps ?_
              refine L_r (r_pf rfl rfl) ?_
              refine L_r (r_ab rfl) ?_
              refine L_nil ?_
              refine W_ret ?_
              refine ret1 (v := .bool _) rfl rfl ?_
              refine ⟨?_, Ch.au⟩
              (try simp only [decide_eq_true_eq, decide_eq_false_iff_not] at *)
              first
              | contradiction
              | exact bool_dec (he.trans (iff_of_eq (tp_else (by assumption) (by assumption) (by assumption) (by assumption) (by assumption)).symm))
              | exact bool_dec (iff_of_eq (tp_new (by assumption) (by assumption)).symm)
              | exact bool_f (by rw [tp_word (by assumption)]; rintro ⟨k1, k2, k3⟩; first | omega | simp_all)
              | exact dec_b (by rw [tp_word (by assumption)]; unfold wordP noNl; constructor; (intro k; exact ⟨by omega, by assumption, by simpa using k⟩); (rintro ⟨k1, k2, k3⟩; simpa using k3))
              | exact bool_f (by rw [tp_is (by assumption) (by assumption) (by first | exact .inl (by assumption) | exact .inr (by assumption))]; rintro ⟨k1, k2⟩; contradiction)
              | exact dec_b (by rw [tp_is (by assumption) (by assumption) (by first | exact .inl (by assumption) | exact .inr (by assumption))]; constructor; (intro k; exact ⟨by assumption, by simpa using k⟩); (rintro ⟨k1, k2⟩; simpa using k2))
              | exact bool_f (by rw [tp_array (by assumption) (by assumption) (by assumption) (by assumption) (by assumption)]; rintro ⟨k1, k2⟩; contradiction)
              | exact bool_dec (by rw [tp_array (by assumption) (by assumption) (by assumption) (by assumption) (by assumption)]; exact ⟨fun k => ⟨by assumption, by omega⟩, fun k => by have := k.2; omega⟩)
          · refine W_skip ?_
            refine W_seq ?_
            refine W_region ?_
            refine L_r (r_ms rfl) ?_
            refine L_call (.plain rfl) rfl rfl (r_call Tryz.func86 rfl rfl rfl (by rfl)) (parts_use base s _ hs (hG.nw Ch.au hb)) ?_
            rintro v48 w8 ⟨a, b, e, rfl, he, c8⟩
            have hz8 := c8.size
            refine L_r (r_mv) ?_
            refine L_r (r_ext3_0 rfl) ?_
            refine L_r (r_ext3_1 rfl) ?_
            refine L_r (r_ext3_2 rfl) ?_
            refine L_r (r_as rfl) ?_
            refine L_r (r_as rfl) ?_
            refine L_r (r_ai rfl) ?_
            refine L_nil ?_
            refine W_seq ?_
            refine W_region ?_
            refine L_r (r_mi rfl) ?_
            refine L_r (r_eql rfl rfl) ?_
            refine L_r (r_ab rfl) ?_
            refine L_nil ?_
            refine W_ret ?_
            refine ret1 (v := .bool _) rfl rfl ?_
            refine ⟨?_, Ch.au⟩
            (try simp only [decide_eq_true_eq, decide_eq_false_iff_not] at *)
            first
            | contradiction
            | exact bool_dec (he.trans (iff_of_eq (tp_else (by assumption) (by assumption) (by assumption) (by assumption) (by assumption)).symm))
            | exact bool_dec (iff_of_eq (tp_new (by assumption) (by assumption)).symm)
            | exact bool_f (by rw [tp_word (by assumption)]; rintro ⟨k1, k2, k3⟩; first | omega | simp_all)
            | exact dec_b (by rw [tp_word (by assumption)]; unfold wordP noNl; constructor; (intro k; exact ⟨by omega, by assumption, by simpa using k⟩); (rintro ⟨k1, k2, k3⟩; simpa using k3))
            | exact bool_f (by rw [tp_is (by assumption) (by assumption) (by first | exact .inl (by assumption) | exact .inr (by assumption))]; rintro ⟨k1, k2⟩; contradiction)
            | exact dec_b (by rw [tp_is (by assumption) (by assumption) (by first | exact .inl (by assumption) | exact .inr (by assumption))]; constructor; (intro k; exact ⟨by assumption, by simpa using k⟩); (rintro ⟨k1, k2⟩; simpa using k2))
            | exact bool_f (by rw [tp_array (by assumption) (by assumption) (by assumption) (by assumption) (by assumption)]; rintro ⟨k1, k2⟩; contradiction)
            | exact bool_dec (by rw [tp_array (by assumption) (by assumption) (by assumption) (by assumption) (by assumption)]; exact ⟨fun k => ⟨by assumption, by omega⟩, fun k => by have := k.2; omega⟩)
      · refine W_region ?_
        refine L_r (r_eqls rfl rfl) ?_
        refine L_r (r_ab rfl) ?_
        refine L_nil ?_
        refine W_if rfl (fun h27 => ?_) (fun h27 => ?_)
        · refine W_seq ?_
          refine W_region ?_
          refine L_r (r_ms rfl) ?_
          refine L_call (.plain rfl) rfl rfl (r_call Tryz.func83 rfl rfl rfl (by rfl)) (rightk_walk s _ hs) ?_
          rintro v31 w9 ⟨rfl, c9⟩
          have hz9 := c9.size
          refine L_r (r_mb rfl) ?_
          refine L_caseb (d := 32) rfl (fun h32 => ?_) (fun h32 => ?_)
          · refine L_g (r_ms rfl) ?_
            refine L_call (.yes 2 true rfl rfl) rfl rfl (r_call Tryz.func84 rfl rfl rfl (by rfl)) (plain_walk s _) ?_
            rintro v34 w10 ⟨rfl, rfl⟩
            refine L_g (r_not rfl) ?_
            refine L_r (r_pt rfl rfl) ?_
            refine L_r (r_ab rfl) ?_
            refine L_nil ?_
            refine W_ret ?_
            refine ret1 (v := .bool _) rfl rfl ?_
            refine ⟨?_, Ch.au⟩
            (try simp only [decide_eq_true_eq, decide_eq_false_iff_not] at *)
            first
            | contradiction
            | exact bool_dec (he.trans (iff_of_eq (tp_else (by assumption) (by assumption) (by assumption) (by assumption) (by assumption)).symm))
            | exact bool_dec (iff_of_eq (tp_new (by assumption) (by assumption)).symm)
            | exact bool_f (by rw [tp_word (by assumption)]; rintro ⟨k1, k2, k3⟩; first | omega | simp_all)
            | exact dec_b (by rw [tp_word (by assumption)]; unfold wordP noNl; constructor; (intro k; exact ⟨by omega, by assumption, by simpa using k⟩); (rintro ⟨k1, k2, k3⟩; simpa using k3))
            | exact bool_f (by rw [tp_is (by assumption) (by assumption) (by first | exact .inl (by assumption) | exact .inr (by assumption))]; rintro ⟨k1, k2⟩; contradiction)
            | exact dec_b (by rw [tp_is (by assumption) (by assumption) (by first | exact .inl (by assumption) | exact .inr (by assumption))]; constructor; (intro k; exact ⟨by assumption, by simpa using k⟩); (rintro ⟨k1, k2⟩; simpa using k2))
            | exact bool_f (by rw [tp_array (by assumption) (by assumption) (by assumption) (by assumption) (by assumption)]; rintro ⟨k1, k2⟩; contradiction)
            | exact bool_dec (by rw [tp_array (by assumption) (by assumption) (by assumption) (by assumption) (by assumption)]; exact ⟨fun k => ⟨by assumption, by omega⟩, fun k => by have := k.2; omega⟩)
          · refine L_ps ?_
            refine L_ps ?_
            refine L_ps ?_
            refine L_r (r_pf rfl rfl) ?_
            refine L_r (r_ab rfl) ?_
            refine L_nil ?_
            refine W_ret ?_
            refine ret1 (v := .bool _) rfl rfl ?_
            refine ⟨?_, Ch.au⟩
            (try simp only [decide_eq_true_eq, decide_eq_false_iff_not] at *)
            first
            | contradiction
            | exact bool_dec (he.trans (iff_of_eq (tp_else (by assumption) (by assumption) (by assumption) (by assumption) (by assumption)).symm))
            | exact bool_dec (iff_of_eq (tp_new (by assumption) (by assumption)).symm)
            | exact bool_f (by rw [tp_word (by assumption)]; rintro ⟨k1, k2, k3⟩; first | omega | simp_all)
            | exact dec_b (by rw [tp_word (by assumption)]; unfold wordP noNl; constructor; (intro k; exact ⟨by omega, by assumption, by simpa using k⟩); (rintro ⟨k1, k2, k3⟩; simpa using k3))
            | exact bool_f (by rw [tp_is (by assumption) (by assumption) (by first | exact .inl (by assumption) | exact .inr (by assumption))]; rintro ⟨k1, k2⟩; contradiction)
            | exact dec_b (by rw [tp_is (by assumption) (by assumption) (by first | exact .inl (by assumption) | exact .inr (by assumption))]; constructor; (intro k; exact ⟨by assumption, by simpa using k⟩); (rintro ⟨k1, k2⟩; simpa using k2))
            | exact bool_f (by rw [tp_array (by assumption) (by assumption) (by assumption) (by assumption) (by assumption)]; rintro ⟨k1, k2⟩; contradiction)
            | exact bool_dec (by rw [tp_array (by assumption) (by assumption) (by assumption) (by assumption) (by assumption)]; exact ⟨fun k => ⟨by assumption, by omega⟩, fun k => by have := k.2; omega⟩)
        · refine W_seq ?_
          refine W_region ?_
          refine L_r (r_eqls rfl rfl) ?_
          refine L_r (r_ab rfl) ?_
          refine L_nil ?_
          refine W_if rfl (fun h37 => ?_) (fun h37 => ?_)
          · refine W_seq ?_
            refine W_region ?_
            refine L_r (r_ms rfl) ?_
            refine L_call (.plain rfl) rfl rfl (r_call Tryz.func83 rfl rfl rfl (by rfl)) (rightk_walk s _ hs) ?_
            rintro v40 w11 ⟨rfl, c11⟩
            have hz11 := c11.size
            refine L_r (r_mb rfl) ?_
            refine L_caseb (d := 41) rfl (fun h41 => ?_) (fun h41 => ?_)
            · refine L_g (r_ms rfl) ?_
              refine L_call (.yes 2 true rfl rfl) rfl rfl (r_call Tryz.func85 rfl rfl rfl (by rfl)) (deep_walk s _ hs) ?_
              rintro v43 w12 ⟨rfl, c12⟩
              have hz12 := c12.size
              refine L_g (r_lss rfl rfl) ?_
              refine L_r (r_pt rfl rfl) ?_
              refine L_r (r_ab rfl) ?_
              refine L_nil ?_
              refine W_ret ?_
              refine ret1 (v := .bool _) rfl rfl ?_
              refine ⟨?_, Ch.au⟩
              (try simp only [decide_eq_true_eq, decide_eq_false_iff_not] at *)
              first
              | contradiction
              | exact bool_dec (he.trans (iff_of_eq (tp_else (by assumption) (by assumption) (by assumption) (by assumption) (by assumption)).symm))
              | exact bool_dec (iff_of_eq (tp_new (by assumption) (by assumption)).symm)
              | exact bool_f (by rw [tp_word (by assumption)]; rintro ⟨k1, k2, k3⟩; first | omega | simp_all)
              | exact dec_b (by rw [tp_word (by assumption)]; unfold wordP noNl; constructor; (intro k; exact ⟨by omega, by assumption, by simpa using k⟩); (rintro ⟨k1, k2, k3⟩; simpa using k3))
              | exact bool_f (by rw [tp_is (by assumption) (by assumption) (by first | exact .inl (by assumption) | exact .inr (by assumption))]; rintro ⟨k1, k2⟩; contradiction)
              | exact dec_b (by rw [tp_is (by assumption) (by assumption) (by first | exact .inl (by assumption) | exact .inr (by assumption))]; constructor; (intro k; exact ⟨by assumption, by simpa using k⟩); (rintro ⟨k1, k2⟩; simpa using k2))
              | exact bool_f (by rw [tp_array (by assumption) (by assumption) (by assumption) (by assumption) (by assumption)]; rintro ⟨k1, k2⟩; contradiction)
              | exact bool_dec (by rw [tp_array (by assumption) (by assumption) (by assumption) (by assumption) (by assumption)]; exact ⟨fun k => ⟨by assumption, by omega⟩, fun k => by have := k.2; omega⟩)
            · refine L_ps ?_
              refine L_ps ?_
              refine L_ps ?_
              refine L_r (r_pf rfl rfl) ?_
              refine L_r (r_ab rfl) ?_
              refine L_nil ?_
              refine W_ret ?_
              refine ret1 (v := .bool _) rfl rfl ?_
              refine ⟨?_, Ch.au⟩
              (try simp only [decide_eq_true_eq, decide_eq_false_iff_not] at *)
              first
              | contradiction
              | exact bool_dec (he.trans (iff_of_eq (tp_else (by assumption) (by assumption) (by assumption) (by assumption) (by assumption)).symm))
              | exact bool_dec (iff_of_eq (tp_new (by assumption) (by assumption)).symm)
              | exact bool_f (by rw [tp_word (by assumption)]; rintro ⟨k1, k2, k3⟩; first | omega | simp_all)
              | exact dec_b (by rw [tp_word (by assumption)]; unfold wordP noNl; constructor; (intro k; exact ⟨by omega, by assumption, by simpa using k⟩); (rintro ⟨k1, k2, k3⟩; simpa using k3))
              | exact bool_f (by rw [tp_is (by assumption) (by assumption) (by first | exact .inl (by assumption) | exact .inr (by assumption))]; rintro ⟨k1, k2⟩; contradiction)
              | exact dec_b (by rw [tp_is (by assumption) (by assumption) (by first | exact .inl (by assumption) | exact .inr (by assumption))]; constructor; (intro k; exact ⟨by assumption, by simpa using k⟩); (rintro ⟨k1, k2⟩; simpa using k2))
              | exact bool_f (by rw [tp_array (by assumption) (by assumption) (by assumption) (by assumption) (by assumption)]; rintro ⟨k1, k2⟩; contradiction)
              | exact bool_dec (by rw [tp_array (by assumption) (by assumption) (by assumption) (by assumption) (by assumption)]; exact ⟨fun k => ⟨by assumption, by omega⟩, fun k => by have := k.2; omega⟩)
          · refine W_skip ?_
            refine W_seq ?_
            refine W_region ?_
            refine L_r (r_ms rfl) ?_
            refine L_call (.plain rfl) rfl rfl (r_call Tryz.func86 rfl rfl rfl (by rfl)) (parts_use base s _ hs (hG.nw Ch.au hb)) ?_
            rintro v48 w13 ⟨a, b, e, rfl, he, c13⟩
            have hz13 := c13.size
            refine L_r (r_mv) ?_
            refine L_r (r_ext3_0 rfl) ?_
            refine L_r (r_ext3_1 rfl) ?_
            refine L_r (r_ext3_2 rfl) ?_
            refine L_r (r_as rfl) ?_
            refine L_r (r_as rfl) ?_
            refine L_r (r_ai rfl) ?_
            refine L_nil ?_
            refine W_seq ?_
            refine W_region ?_
            refine L_r (r_mi rfl) ?_
            refine L_r (r_eql rfl rfl) ?_
            refine L_r (r_ab rfl) ?_
            refine L_nil ?_
            refine W_ret ?_
            refine ret1 (v := .bool _) rfl rfl ?_
            refine ⟨?_, Ch.au⟩
            (try simp only [decide_eq_true_eq, decide_eq_false_iff_not] at *)
            first
            | contradiction
            | exact bool_dec (he.trans (iff_of_eq (tp_else (by assumption) (by assumption) (by assumption) (by assumption) (by assumption)).symm))
            | exact bool_dec (iff_of_eq (tp_new (by assumption) (by assumption)).symm)
            | exact bool_f (by rw [tp_word (by assumption)]; rintro ⟨k1, k2, k3⟩; first | omega | simp_all)
            | exact dec_b (by rw [tp_word (by assumption)]; unfold wordP noNl; constructor; (intro k; exact ⟨by omega, by assumption, by simpa using k⟩); (rintro ⟨k1, k2, k3⟩; simpa using k3))
            | exact bool_f (by rw [tp_is (by assumption) (by assumption) (by first | exact .inl (by assumption) | exact .inr (by assumption))]; rintro ⟨k1, k2⟩; contradiction)
            | exact dec_b (by rw [tp_is (by assumption) (by assumption) (by first | exact .inl (by assumption) | exact .inr (by assumption))]; constructor; (intro k; exact ⟨by assumption, by simpa using k⟩); (rintro ⟨k1, k2⟩; simpa using k2))
            | exact bool_f (by rw [tp_array (by assumption) (by assumption) (by assumption) (by assumption) (by assumption)]; rintro ⟨k1, k2⟩; contradiction)
            | exact bool_dec (by rw [tp_array (by assumption) (by assumption) (by assumption) (by assumption) (by assumption)]; exact ⟨fun k => ⟨by assumption, by omega⟩, fun k => by have := k.2; omega⟩)
end Go.Proofs.YtioonbfinnigpaaGreatDoor

