/- Names, walked. -/
import Derived.Test.YtioonbfinnigpaaGreatDoorRows
import Derived.Test.YtioonbfinnigpaaGreatDoorIter
namespace Go.Proofs.YtioonbfinnigpaaGreatDoor
open Go Go.RowKit
set_option linter.unusedVariables false
set_option maxRecDepth 100000
set_option linter.unusedSimpArgs false
def greatC (c : Int) : Prop := 65 ≤ c ∧ c ≤ 90
def smallC (c : Int) : Prop := 97 ≤ c ∧ c ≤ 122
def digitC (c : Int) : Prop := 48 ≤ c ∧ c ≤ 57
instance (c : Int) : Decidable (greatC c) := inferInstanceAs (Decidable (_ ∧ _))
instance (c : Int) : Decidable (smallC c) := inferInstanceAs (Decidable (_ ∧ _))
instance (c : Int) : Decidable (digitC c) := inferInstanceAs (Decidable (_ ∧ _))
def nameC (c : Int) : Prop := greatC c ∨ smallC c ∨ digitC c
instance (c : Int) : Decidable (nameC c) := inferInstanceAs (Decidable (_ ∨ _))
theorem bool_dec {p q : Prop} [Decidable p] [Decidable q] (h : p ↔ q) : (Value.bool (decide p)) = .bool (decide q) := by
  by_cases hp : p
  · rw [decide_eq_true hp, decide_eq_true (h.1 hp)]
  · rw [decide_eq_false hp, decide_eq_false (fun hq => hp (h.2 hq))]
theorem bool_t {q : Prop} [Decidable q] (h : q) : (Value.bool true) = .bool (decide q) := by rw [decide_eq_true h]
theorem bool_f {q : Prop} [Decidable q] (h : ¬ q) : (Value.bool false) = .bool (decide q) := by rw [decide_eq_false h]
theorem great_walk (c : Int) (w0 : World) : Does Tryz.prog 104 #[.int .i32 c] w0 (fun r w' => r = .bool (decide (greatC c)) ∧ w' = w0) := by
  refine fn_of (n := 9) (args := [.int .i32 c]) Tryz.func104 rfl rfl rfl ?_
  refine W_seq ?_
  refine W_region ?_
  refine L_r (r_ab rfl) ?_
  refine L_nil ?_
  refine W_seq ?_
  refine W_region ?_
  refine L_r (r_mi rfl) ?_
  refine L_r (r_geq rfl rfl) ?_
  refine L_r (r_mb rfl) ?_
  refine L_case (d := 5) rfl (fun h5 => ?_) (fun h5 => ?_)
  · refine L_g (r_mi rfl) ?_
    refine L_g (r_leq rfl rfl) ?_
    refine L_r (r_pt rfl rfl) ?_
    refine L_r (r_ab rfl) ?_
    refine L_nil ?_
    refine W_ret ?_
    refine ret1 (v := .bool _) rfl rfl ?_
    exact ⟨by first | (apply bool_dec; unfold greatC; omega) | (apply bool_t; unfold greatC; omega) | (apply bool_f; unfold greatC; omega), rfl⟩
  · refine L_ps ?_
    refine L_ps ?_
    refine L_r (r_pf rfl rfl) ?_
    refine L_r (r_ab rfl) ?_
    refine L_nil ?_
    refine W_ret ?_
    refine ret1 (v := .bool _) rfl rfl ?_
    exact ⟨by first | (apply bool_dec; unfold greatC; omega) | (apply bool_t; unfold greatC; omega) | (apply bool_f; unfold greatC; omega), rfl⟩
theorem small_walk (c : Int) (w0 : World) : Does Tryz.prog 106 #[.int .i32 c] w0 (fun r w' => r = .bool (decide (smallC c)) ∧ w' = w0) := by
  refine fn_of (n := 9) (args := [.int .i32 c]) Tryz.func106 rfl rfl rfl ?_
  refine W_seq ?_
  refine W_region ?_
  refine L_r (r_ab rfl) ?_
  refine L_nil ?_
  refine W_seq ?_
  refine W_region ?_
  refine L_r (r_mi rfl) ?_
  refine L_r (r_geq rfl rfl) ?_
  refine L_r (r_mb rfl) ?_
  refine L_case (d := 5) rfl (fun h5 => ?_) (fun h5 => ?_)
  · refine L_g (r_mi rfl) ?_
    refine L_g (r_leq rfl rfl) ?_
    refine L_r (r_pt rfl rfl) ?_
    refine L_r (r_ab rfl) ?_
    refine L_nil ?_
    refine W_ret ?_
    refine ret1 (v := .bool _) rfl rfl ?_
    exact ⟨by first | (apply bool_dec; unfold smallC; omega) | (apply bool_t; unfold smallC; omega) | (apply bool_f; unfold smallC; omega), rfl⟩
  · refine L_ps ?_
    refine L_ps ?_
    refine L_r (r_pf rfl rfl) ?_
    refine L_r (r_ab rfl) ?_
    refine L_nil ?_
    refine W_ret ?_
    refine ret1 (v := .bool _) rfl rfl ?_
    exact ⟨by first | (apply bool_dec; unfold smallC; omega) | (apply bool_t; unfold smallC; omega) | (apply bool_f; unfold smallC; omega), rfl⟩
theorem nmc_walk (c : Int) (w0 : World) : Does Tryz.prog 116 #[.int .i32 c] w0 (fun r w' => r = .bool (decide (nameC c)) ∧ w' = w0) := by
  refine fn_of (n := 17) (args := [.int .i32 c]) Tryz.func116 rfl rfl rfl ?_
  refine W_seq ?_
  refine W_region ?_
  refine L_r (r_ab rfl) ?_
  refine L_nil ?_
  refine W_seq ?_
  refine W_region ?_
  refine L_r (r_mi rfl) ?_
  refine L_call (.plain rfl) rfl rfl (r_call Tryz.func104 rfl rfl rfl (by rfl)) (great_walk c _) ?_
  rintro v4 w1 ⟨rfl, rfl⟩
  refine L_r (r_mb rfl) ?_
  refine L_caseb (d := 5) rfl (fun h5 => ?_) (fun h5 => ?_)
  · refine L_ps ?_
    refine L_ps ?_
    refine L_r (r_pt rfl rfl) ?_
    refine L_r (r_mb rfl) ?_
    refine L_ps ?_
    refine L_ps ?_
    refine L_ps ?_
    refine L_pu ?_
    refine L_pu ?_
    refine L_ps ?_
    refine L_r (r_pt rfl rfl) ?_
    refine L_r (r_ab rfl) ?_
    refine L_nil ?_
    refine W_ret ?_
    refine ret1 (v := .bool _) rfl rfl ?_
    refine ⟨?_, rfl⟩
    (try simp only [decide_eq_true_eq, decide_eq_false_iff_not] at *)
    first | (apply bool_dec; unfold nameC greatC smallC digitC at *; omega) | (apply bool_t; unfold nameC greatC smallC digitC at *; omega) | (apply bool_f; unfold nameC greatC smallC digitC at *; omega)
  · refine L_g (r_mi rfl) ?_
    refine L_call (.yes 2 false rfl rfl) rfl rfl (r_call Tryz.func106 rfl rfl rfl (by rfl)) (small_walk c _) ?_
    rintro v7 w2 ⟨rfl, rfl⟩
    refine L_r (r_pf rfl rfl) ?_
    refine L_r (r_mb rfl) ?_
    refine L_caseb (d := 9) rfl (fun h9 => ?_) (fun h9 => ?_)
    · refine L_ps ?_
      refine L_ps ?_
      refine L_ps ?_
      refine L_pu ?_
      refine L_pu ?_
      refine L_ps ?_
      refine L_r (r_pt rfl rfl) ?_
      refine L_r (r_ab rfl) ?_
      refine L_nil ?_
      refine W_ret ?_
      refine ret1 (v := .bool _) rfl rfl ?_
      refine ⟨?_, rfl⟩
      (try simp only [decide_eq_true_eq, decide_eq_false_iff_not] at *)
      first | (apply bool_dec; unfold nameC greatC smallC digitC at *; omega) | (apply bool_t; unfold nameC greatC smallC digitC at *; omega) | (apply bool_f; unfold nameC greatC smallC digitC at *; omega)
    · refine L_g (r_mi rfl) ?_
      refine L_g (r_geq rfl rfl) ?_
      refine L_g (r_mb rfl) ?_
      refine L_case (d := 12) rfl (fun h12 => ?_) (fun h12 => ?_)
      · refine L_g (r_mi rfl) ?_
        refine L_g (r_leq rfl rfl) ?_
        refine L_g (r_pt rfl rfl) ?_
        refine L_r (r_pf rfl rfl) ?_
        refine L_r (r_ab rfl) ?_
        refine L_nil ?_
        refine W_ret ?_
        refine ret1 (v := .bool _) rfl rfl ?_
        refine ⟨?_, rfl⟩
        (try simp only [decide_eq_true_eq, decide_eq_false_iff_not] at *)
        first | (apply bool_dec; unfold nameC greatC smallC digitC at *; omega) | (apply bool_t; unfold nameC greatC smallC digitC at *; omega) | (apply bool_f; unfold nameC greatC smallC digitC at *; omega)
      · refine L_ps ?_
        refine L_ps ?_
        refine L_g (r_pf rfl rfl) ?_
        refine L_r (r_pf rfl rfl) ?_
        refine L_r (r_ab rfl) ?_
        refine L_nil ?_
        refine W_ret ?_
        refine ret1 (v := .bool _) rfl rfl ?_
        refine ⟨?_, rfl⟩
        (try simp only [decide_eq_true_eq, decide_eq_false_iff_not] at *)
        first | (apply bool_dec; unfold nameC greatC smallC digitC at *; omega) | (apply bool_t; unfold nameC greatC smallC digitC at *; omega) | (apply bool_f; unfold nameC greatC smallC digitC at *; omega)
def allN (s : ByteArray) : Prop := ∀ i, i < s.size → nameC (bat s i).toNat
instance (s : ByteArray) : Decidable (allN s) := inferInstanceAs (Decidable (∀ i, i < s.size → _))
theorem dec_nm (s : ByteArray) (a : Nat) (h : a < s.size) : (nameC ((Utf8.decode s a).1 : Nat) → (Utf8.decode s a).2 = 1 ∧ nameC (bat s a).toNat) ∧ (¬ nameC ((Utf8.decode s a).1 : Nat) → ¬ nameC (bat s a).toNat) := by
  have hb : (bat s a) = s[a]'h := by
    unfold bat bs
    rw [List.getD_eq_getElem?_getD, Array.getElem?_toList, Array.getElem?_eq_getElem (by exact h)]
    rfl
  rw [hb]
  by_cases ha : (s[a]'h).toNat < 128
  · rw [decode_ascii s a h ha]; exact ⟨fun h => ⟨rfl, h⟩, fun h => h⟩
  · have := decode_high s a h (by omega)
    have h2 : ¬ nameC ((s[a]'h).toNat : Int) := by unfold nameC greatC smallC digitC; omega
    exact ⟨fun h3 => by unfold nameC greatC smallC digitC at h3; omega, fun _ => h2⟩
theorem all_walk (s : ByteArray) (w0 : World) : Does Tryz.prog 115 #[.string s, .func (.func 116) #[] #[]] w0 (fun r w' => r = .bool (decide (allN s)) ∧ Nw w0 w') := by
  refine fn_of (n := 16) (args := [.string s, .func (.func 116) #[] #[]]) Tryz.func115 rfl rfl rfl ?_
  refine W_seq ?_
  refine W_region ?_
  refine L_r (r_ab rfl) ?_
  refine L_nil ?_
  refine W_seq ?_
  refine W_seq ?_
  refine W_region ?_
  refine L_r (r_ms rfl) ?_
  refine L_ranges Tryz.underlying9 (.plain rfl) rfl rfl (fun w1 b8 hit8 eb1 hs1 c1 => ?_)
  refine L_nil ?_
  refine W_block ?_
  refine W_loopF [1, 8] (fun mz_ f W => ∃ (a : Nat), True ∧ (a ≤ s.size ∧ Its W b8 s a ∧ (∀ i, i < a → nameC (bat s i).toNat) ∧ Nw w0 W) ∧ mz_ = s.size - a) ?_ ?_
  · refine ⟨_, 0, trivial, ?_, rfl⟩
    exact ⟨by omega, Its.au, fun i hi => by omega, Ch.au⟩
  rintro m0 g0 w2 ⟨a, -, hR0, rfl⟩
  obtain ⟨ha, hit, hok, hnw⟩ := hR0
  have hz := hnw.size
  refine W_seq ?_
  refine W_region ?_
  refine L_nexts (.plain rfl) rfl rfl Its.au (fun hall9 => ?_) (fun w3 hin9 hit9 hs3 c3 => ?_)
  · refine L_r (r_ext1_0 rfl) ?_
    refine L_nil ?_
    refine W_seq ?_
    refine W_false rfl ?_
    refine W_exit ?_
    repeat (first | refine blk_hit ?_ | refine blk_miss rfl ?_)
    refine W_seq ?_
    refine W_region ?_
    refine L_r (r_ab rfl) ?_
    refine L_nil ?_
    refine W_ret ?_
    refine ret1 (v := .bool _) rfl rfl ?_
    first
      | (refine ⟨bool_f (fun h => ?_), Ch.au⟩
         simp only [Bool.not_eq_true', decide_eq_false_iff_not] at h15
         exact (dec_nm s a hin9).2 h15 (h a hin9))
      | exact ⟨bool_t (fun i hi => hok i (by omega)), Ch.au⟩
  · refine L_r (r_ext3_0 rfl) ?_
    refine L_nil ?_
    refine W_seq ?_
    refine W_true rfl ?_
    refine W_skip ?_
    refine W_block ?_
    refine W_seq ?_
    refine W_region ?_
    refine L_r (r_ext3_2 rfl) ?_
    refine L_r (r_ai rfl) ?_
    refine L_nil ?_
    refine W_seq ?_
    refine W_region ?_
    refine L_r (r_mv) ?_
    refine L_r (r_mi rfl) ?_
    refine L_call (.plain rfl) rfl rfl (r_call Tryz.func116 rfl rfl rfl (by rfl)) (nmc_walk _ _) ?_
    rintro v14 w4 ⟨rfl, rfl⟩
    refine L_r (r_not rfl) ?_
    refine L_nil ?_
    refine W_bool rfl (fun h15 => ?_) (fun h15 => ?_)
    · refine W_seq ?_
      refine W_region ?_
      refine L_r (r_ab rfl) ?_
      refine L_nil ?_
      refine W_ret ?_
      refine ret1 (v := .bool _) rfl rfl ?_
      first
        | (refine ⟨bool_f (fun h => ?_), Ch.au⟩
           simp only [Bool.not_eq_true', decide_eq_false_iff_not] at h15
           exact (dec_nm s a hin9).2 h15 (h a hin9))
        | exact ⟨bool_t (fun i hi => hok i (by omega)), Ch.au⟩
    · refine W_skip ?_
      refine ⟨⟨fx2, fx2, trivial⟩, _, ?_, a + 1, trivial, ?_, rfl⟩
      · omega
      simp only [Bool.not_eq_false', decide_eq_true_eq] at h15
      have hd := (dec_nm s a hin9).1 h15
      rw [hd.1] at hit9
      refine ⟨by omega, Its.au, fun i hi => ?_, Ch.au⟩
      by_cases e : i < a
      · exact hok i e
      · have : i = a := by omega
        rw [this]; exact hd.2
def nameP (s : ByteArray) : Prop := 0 < s.size ∧ s.size ≤ 32 ∧ ¬ digitC (bat s 0).toNat ∧ allN s
instance (s : ByteArray) : Decidable (nameP s) := inferInstanceAs (Decidable (_ ∧ _))
theorem empty_size {s : ByteArray} (h : ¬ s = { data := #[] }) : 0 < s.size := by
  rcases Nat.eq_zero_or_pos s.size with h0 | h0
  · exact absurd (by
      obtain ⟨d⟩ := s
      have : d.size = 0 := h0
      rw [Array.eq_empty_of_size_eq_zero this]) h
  · exact h0
theorem name_walk (s : ByteArray) (w0 : World) : Does Tryz.prog 103 #[.string s] w0 (fun r w' => r = .bool (decide (nameP s)) ∧ Nw w0 w') := by
  refine fn_of (n := 22) (args := [.string s]) Tryz.func103 rfl rfl rfl ?_
  refine W_seq ?_
  refine W_region ?_
  refine L_r (r_ab rfl) ?_
  refine L_nil ?_
  refine W_seq ?_
  refine W_seq ?_
  refine W_region ?_
  refine L_r (r_ms rfl) ?_
  refine L_r (r_eqls rfl rfl) ?_
  refine L_r (r_mb rfl) ?_
  refine L_case (d := 5) rfl (fun h5 => ?_) (fun h5 => ?_)
  · refine L_ps ?_
    refine L_ps ?_
    refine L_ps ?_
    refine L_r (r_pt rfl rfl) ?_
    refine L_r (r_mb rfl) ?_
    refine L_ps ?_
    refine L_ps ?_
    refine L_ps ?_
    refine L_ps ?_
    refine L_pu ?_
    refine L_pu ?_
    refine L_pu ?_
    refine L_ps ?_
    refine L_r (r_pt rfl rfl) ?_
    refine L_nil ?_
    refine W_true rfl ?_
    refine W_seq ?_
    refine W_region ?_
    refine L_r (r_ab rfl) ?_
    refine L_nil ?_
    refine W_ret ?_
    refine ret1 (v := .bool _) rfl rfl ?_
    refine ⟨?_, Ch.au⟩
    first
      | (apply bool_f; unfold nameP digitC; rintro ⟨k1, k2, k3, _⟩; first | omega | (subst h5; exact absurd k1 (by decide)))
      | (apply bool_dec; unfold nameP digitC; exact ⟨fun h => ⟨hpos, by omega, by omega, h⟩, fun h => h.2.2.2⟩)
  · have hpos := empty_size (by assumption)
    refine L_g (r_ms rfl) ?_
    refine L_g (r_lens Tryz.underlying9 rfl) ?_
    refine L_g (r_gtr rfl rfl) ?_
    refine L_r (r_pf rfl rfl) ?_
    refine L_r (r_mb rfl) ?_
    refine L_case (d := 10) rfl (fun h10 => ?_) (fun h10 => ?_)
    · refine L_ps ?_
      refine L_ps ?_
      refine L_ps ?_
      refine L_ps ?_
      refine L_pu ?_
      refine L_pu ?_
      refine L_pu ?_
      refine L_ps ?_
      refine L_r (r_pt rfl rfl) ?_
      refine L_nil ?_
      refine W_true rfl ?_
      refine W_seq ?_
      refine W_region ?_
      refine L_r (r_ab rfl) ?_
      refine L_nil ?_
      refine W_ret ?_
      refine ret1 (v := .bool _) rfl rfl ?_
      refine ⟨?_, Ch.au⟩
      first
        | (apply bool_f; unfold nameP digitC; rintro ⟨k1, k2, k3, _⟩; first | omega | (subst h5; exact absurd k1 (by decide)))
        | (apply bool_dec; unfold nameP digitC; exact ⟨fun h => ⟨hpos, by omega, by omega, h⟩, fun h => h.2.2.2⟩)
    · refine L_g (r_ms rfl) ?_
      refine L_g (r_indexs Tryz.underlying9 rfl rfl (by omega) (by omega) (by conv => lhs; (try simp only [Nat.mul_one, Nat.zero_add, Int.toNat_natCast, Int.toNat_zero, Int.reduceToNat, Nat.reduceMul, Nat.reduceAdd]))) ?_
      refine L_g (r_geq rfl rfl) ?_
      refine L_g (r_mb rfl) ?_
      refine L_case (d := 14) rfl (fun h14 => ?_) (fun h14 => ?_)
      · refine L_g (r_ms rfl) ?_
        refine L_g (r_indexs Tryz.underlying9 rfl rfl (by omega) (by omega) (by conv => lhs; (try simp only [Nat.mul_one, Nat.zero_add, Int.toNat_natCast, Int.toNat_zero, Int.reduceToNat, Nat.reduceMul, Nat.reduceAdd]))) ?_
        refine L_g (r_leq rfl rfl) ?_
        refine L_g (r_pt rfl rfl) ?_
        refine L_r (r_pf rfl rfl) ?_
        refine L_nil ?_
        refine W_if rfl (fun h19 => ?_) (fun h19 => ?_)
        · refine W_seq ?_
          refine W_region ?_
          refine L_r (r_ab rfl) ?_
          refine L_nil ?_
          refine W_ret ?_
          refine ret1 (v := .bool _) rfl rfl ?_
          refine ⟨?_, Ch.au⟩
          first
            | (apply bool_f; unfold nameP digitC; rintro ⟨k1, k2, k3, _⟩; first | omega | (subst h5; exact absurd k1 (by decide)))
            | (apply bool_dec; unfold nameP digitC; exact ⟨fun h => ⟨hpos, by omega, by omega, h⟩, fun h => h.2.2.2⟩)
        · refine W_skip ?_
          refine W_seq ?_
          refine W_region ?_
          refine L_r (r_ms rfl) ?_
          refine L_call (.plain rfl) rfl rfl (r_call Tryz.func115 rfl rfl rfl (by rfl)) (all_walk s _) ?_
          rintro v21 w1 ⟨rfl, c1⟩
          have hz1 := c1.size
          refine L_r (r_ab rfl) ?_
          refine L_nil ?_
          refine W_ret ?_
          refine ret1 (v := .bool _) rfl rfl ?_
          refine ⟨?_, Ch.au⟩
          first
            | (apply bool_f; unfold nameP digitC; rintro ⟨k1, k2, k3, _⟩; first | omega | (subst h5; exact absurd k1 (by decide)))
            | (apply bool_dec; unfold nameP digitC; exact ⟨fun h => ⟨hpos, by omega, by omega, h⟩, fun h => h.2.2.2⟩)
      · refine L_ps ?_
        refine L_ps ?_
        refine L_ps ?_
        refine L_g (r_pf rfl rfl) ?_
        refine L_r (r_pf rfl rfl) ?_
        refine L_nil ?_
        refine W_false rfl ?_
        refine W_skip ?_
        refine W_seq ?_
        refine W_region ?_
        refine L_r (r_ms rfl) ?_
        refine L_call (.plain rfl) rfl rfl (r_call Tryz.func115 rfl rfl rfl (by rfl)) (all_walk s _) ?_
        rintro v21 w2 ⟨rfl, c2⟩
        have hz2 := c2.size
        refine L_r (r_ab rfl) ?_
        refine L_nil ?_
        refine W_ret ?_
        refine ret1 (v := .bool _) rfl rfl ?_
        refine ⟨?_, Ch.au⟩
        first
          | (apply bool_f; unfold nameP digitC; rintro ⟨k1, k2, k3, _⟩; first | omega | (subst h5; exact absurd k1 (by decide)))
          | (apply bool_dec; unfold nameP digitC; exact ⟨fun h => ⟨hpos, by omega, by omega, h⟩, fun h => h.2.2.2⟩)
def classP (s : ByteArray) : Prop := nameP s ∧ greatC (bat s 0).toNat
instance (s : ByteArray) : Decidable (classP s) := inferInstanceAs (Decidable (_ ∧ _))
theorem class_walk (s : ByteArray) (w0 : World) : Does Tryz.prog 82 #[.string s] w0 (fun r w' => r = .bool (decide (classP s)) ∧ Nw w0 w') := by
  refine fn_of (n := 11) (args := [.string s]) Tryz.func82 rfl rfl rfl ?_
  refine W_seq ?_
  refine W_region ?_
  refine L_r (r_ab rfl) ?_
  refine L_nil ?_
  refine W_seq ?_
  refine W_region ?_
  refine L_r (r_ms rfl) ?_
  refine L_call (.plain rfl) rfl rfl (r_call Tryz.func103 rfl rfl rfl (by rfl)) (name_walk s _) ?_
  rintro v4 w1 ⟨rfl, c1⟩
  have hz1 := c1.size
  refine L_r (r_mb rfl) ?_
  refine L_caseb (d := 5) rfl (fun h5 => ?_) (fun h5 => ?_)
  · have hnm : nameP s := by simpa using (by assumption : decide (nameP s) = true)
    have hpos := hnm.1
    have hbt := (bat s 0).toNat_lt
    refine L_g (r_ms rfl) ?_
    refine L_g (r_indexs Tryz.underlying9 rfl rfl (by omega) (by omega) (by conv => lhs; (try simp only [Nat.mul_one, Nat.zero_add, Int.toNat_natCast, Int.toNat_zero, Int.reduceToNat, Nat.reduceMul, Nat.reduceAdd]))) ?_
    refine L_g (r_conv Tryz.underlying5 Tryz.underlying21 rfl (by first | exact wr_i32 (by omega) | rfl)) ?_
    refine L_call (.yes 2 true rfl rfl) rfl rfl (r_call Tryz.func104 rfl rfl rfl (by rfl)) (great_walk _ _) ?_
    rintro v9 w2 ⟨rfl, rfl⟩
    refine L_r (r_pt rfl rfl) ?_
    refine L_r (r_ab rfl) ?_
    refine L_nil ?_
    refine W_ret ?_
    refine ret1 (v := .bool _) rfl rfl ?_
    refine ⟨?_, Ch.au⟩
    first
      | exact bool_f (fun h => hnm h.1)
      | exact bool_dec ⟨fun h => ⟨hnm, h⟩, fun h => h.2⟩
  · have hnm : ¬ nameP s := by simpa using (by assumption : decide (nameP s) = false)
    refine L_ps ?_
    refine L_ps ?_
    refine L_ps ?_
    refine L_ps ?_
    refine L_r (r_pf rfl rfl) ?_
    refine L_r (r_ab rfl) ?_
    refine L_nil ?_
    refine W_ret ?_
    refine ret1 (v := .bool _) rfl rfl ?_
    refine ⟨?_, Ch.au⟩
    first
      | exact bool_f (fun h => hnm h.1)
      | exact bool_dec ⟨fun h => ⟨hnm, h⟩, fun h => h.2⟩
end Go.Proofs.YtioonbfinnigpaaGreatDoor

