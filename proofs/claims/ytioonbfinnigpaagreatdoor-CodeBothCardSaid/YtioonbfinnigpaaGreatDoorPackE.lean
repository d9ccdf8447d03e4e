/- What is read of a reader, from outside; walked. (Printed by tools/mkpacke.py.) -/
import Derived.Test.YtioonbfinnigpaaGreatDoorPackD
namespace Go.Proofs.YtioonbfinnigpaaGreatDoor
open Go Go.RowKit
set_option linter.unusedVariables false
set_option maxRecDepth 100000
set_option linter.unusedSimpArgs false
theorem countR_le {most : Int} {m : List UInt8} (h : (countR most m).1 = 0) : (countR most m).2.1 ≤ m.length := by
  unfold countR at h ⊢
  split at h
  · exact absurd h (by decide)
  · rename_i hn
    rw [if_neg hn]
    omega
theorem ow_form {w : World} {base e sz n : Nat} {v : Value} {xs : List Value} (h : Ow w base e sz v n xs) : ∃ a m c, v = .slice a m c := by
  obtain ⟨_, ⟨h, _⟩ | ⟨g, cap, cur, h, _⟩⟩ := h
  · exact ⟨_, _, _, h⟩
  · exact ⟨_, _, _, h⟩
theorem numL_lt : ∀ (m : List UInt8) (i : Nat), i ≤ 9 → (numL i m).2.1 < 2 ^ (64 - 7 * i)
  | [], i, h => by simp [numL]; exact Nat.two_pow_pos _
  | c :: t, i, h => by
    rw [numL]
    split
    · exact Nat.two_pow_pos _
    · rename_i h1
      split
      · split
        · exact Nat.two_pow_pos _
        · show c.toNat < _
          by_cases e : i = 9
          · subst e
            show c.toNat < 2
            omega
          · have h2 : 2 ^ 7 ≤ 2 ^ (64 - 7 * i) := Nat.pow_le_pow_right (by decide) (by omega)
            omega
      · by_cases e : i = 9
        · have := UInt8.toNat_lt c
          omega
        · have h3 := numL_lt t (i + 1) (by omega)
          have h4 : 2 ^ (64 - 7 * i) = 2 ^ (64 - 7 * (i + 1)) * 2 ^ 7 := by rw [← Nat.pow_add]; congr 1; omega
          show c.toNat % 128 + 128 * (numL (i + 1) t).2.1 < _
          omega
theorem got_num_range (a : Nat) (e : Int) (m : List UInt8) : 0 ≤ ((got (a, e) (numL 0 m).1 (numL 0 m).2.1 0 : Nat) : Int) ∧ ((got (a, e) (numL 0 m).1 (numL 0 m).2.1 0 : Nat) : Int) ≤ 18446744073709551615 := by
  have h := numL_lt m 0 (by decide)
  have h2 : 2 ^ (64 - 7 * 0) = 18446744073709551616 := by decide
  rw [h2] at h
  unfold got
  split <;> omega
theorem rdnum_walk (base b : Nat) (v : Value) (l : List UInt8) (a : Nat) (e : Int) (w0 : World) (hR : RdAt base w0 b v l a e) (hb : base ≤ w0.heap.size) : Does Tryz.prog 13 #[.pointer (some ⟨b, 0, none⟩)] w0 (fun r w' => r = .int .u64 ((got (a, e) (numL 0 (l.drop a)).1 (numL 0 (l.drop a)).2.1 0 : Nat) : Int) ∧ RdAt base w' b v l (nxt (a, e) (numL 0 (l.drop a)).1 (numL 0 (l.drop a)).2.2).1 (nxt (a, e) (numL 0 (l.drop a)).1 (numL 0 (l.drop a)).2.2).2 ∧ Ch (fun j => j = b) w0 w') := by
  have hlb := hR.bk.lt
  refine fn_of (n := 9) (args := [.pointer (some ⟨b, 0, none⟩)]) Tryz.func13 rfl rfl rfl ?_
  refine W_seq ?_
  refine W_region ?_
  refine L_new (.plain rfl) rfl rfl (r_box1 (v := .pointer _) rfl rfl) (fun w1 b1 hb1 eb1 hs1 c1 => ?_)
  refine L_r (r_ai rfl) ?_
  refine L_nil ?_
  refine W_seq ?_
  refine W_region ?_
  refine L_new (.plain rfl) rfl rfl (r_alloc1 rfl rfl) (fun w2 b3 hb3 eb2 hs2 c2 => ?_)
  refine L_set (.plain rfl) rfl Bk.au (r_store (v := .int _ _) rfl rfl rfl rfl Bk.au (by first | decide | (simp; done) | omega)) (fun w3 hb3 hs3 c3 => ?_)
  try simp only [List.setIfInBounds_toArray, List.set_cons_zero, List.set_cons_succ] at hb3
  refine L_nil ?_
  refine W_seq ?_
  refine W_seq ?_
  refine W_region ?_
  refine L_r (r_lb rfl rfl) ?_
  refine L_r (r_funcL (l1 := []) (l2 := [.pointer _, .pointer _]) rfl rfl) ?_
  refine L_call (.plain rfl) rfl rfl (r_call Tryz.func32 rfl rfl rfl (by rfl)) (dnum_walk base b _ _ v l a e 0 _ (hR.nw Ch.au) Bk.au Bk.au (by omega)) ?_
  rintro v6 w4 ⟨x1, rfl, hR1, hq1, c4, hx1⟩
  have hz4 := c4.size
  refine L_r (r_not rfl) ?_
  refine L_nil ?_
  refine W_bool rfl (fun h7 => ?_) (fun h7 => ?_)
  · refine W_seq ?_
    refine W_region ?_
    refine L_r (r_ai rfl) ?_
    refine L_nil ?_
    refine W_ret ?_
    refine ret1 (v := .int _ _) rfl rfl ?_
    first
    | (have he : e = 0 ∧ (numL 0 (l.drop a)).1 = 0 := by (first | simpa using h7 | (have hq := h7; simp at hq; omega))
       obtain ⟨rfl, hz⟩ := he
       exact ⟨by rw [got_ok hz]; have hxx := hx1 rfl hz; (rw [hxx]), hR1.nw Ch.au, Ch.au⟩)
    | (have he : ¬ (e = 0 ∧ (numL 0 (l.drop a)).1 = 0) := by (first | simpa using h7 | (have hq := h7; simp at hq; omega))
       exact ⟨by (rw [show ∀ x d : Nat, got (a, e) (numL 0 (l.drop a)).1 x d = d from fun x d => if_neg he]) <;> rfl, hR1.nw Ch.au, Ch.au⟩)
  · refine W_skip ?_
    refine W_seq ?_
    refine W_region ?_
    refine L_r (r_lb rfl rfl) ?_
    refine L_r (r_ai rfl) ?_
    refine L_nil ?_
    refine W_ret ?_
    refine ret1 (v := .int _ _) rfl rfl ?_
    first
    | (have he : e = 0 ∧ (numL 0 (l.drop a)).1 = 0 := by (first | simpa using h7 | (have hq := h7; simp at hq; omega))
       obtain ⟨rfl, hz⟩ := he
       exact ⟨by rw [got_ok hz]; have hxx := hx1 rfl hz; (rw [hxx]), hR1.nw Ch.au, Ch.au⟩)
    | (have he : ¬ (e = 0 ∧ (numL 0 (l.drop a)).1 = 0) := by (first | simpa using h7 | (have hq := h7; simp at hq; omega))
       exact ⟨by (rw [show ∀ x d : Nat, got (a, e) (numL 0 (l.drop a)).1 x d = d from fun x d => if_neg he]) <;> rfl, hR1.nw Ch.au, Ch.au⟩)
theorem rdcount_walk (base b : Nat) (v : Value) (l : List UInt8) (a : Nat) (e : Int) (most : Int) (w0 : World) (hR : RdAt base w0 b v l a e) (hmo : most ≤ 9223372036854775807) (hb : base ≤ w0.heap.size) : Does Tryz.prog 27 #[.pointer (some ⟨b, 0, none⟩), .int .i64 most] w0 (fun r w' => r = .int .i64 ((got (a, e) (countR most (l.drop a)).1 (countR most (l.drop a)).2.1 0 : Nat) : Int) ∧ RdAt base w' b v l (nxt (a, e) (countR most (l.drop a)).1 (countR most (l.drop a)).2.2).1 (nxt (a, e) (countR most (l.drop a)).1 (countR most (l.drop a)).2.2).2 ∧ Ch (fun j => j = b) w0 w') := by
  have hlb := hR.bk.lt
  refine fn_of (n := 14) (args := [.pointer (some ⟨b, 0, none⟩), .int .i64 most]) Tryz.func27 rfl rfl rfl ?_
  refine W_seq ?_
  refine W_region ?_
  refine L_new (.plain rfl) rfl rfl (r_box1 (v := .pointer _) rfl rfl) (fun w1 b2 hb2 eb1 hs1 c1 => ?_)
  refine L_new (.plain rfl) rfl rfl (r_box1 (v := .int _ _) rfl rfl) (fun w2 b3 hb3 eb2 hs2 c2 => ?_)
  refine L_r (r_ai rfl) ?_
  refine L_nil ?_
  refine W_seq ?_
  refine W_region ?_
  refine L_new (.plain rfl) rfl rfl (r_alloc1 rfl rfl) (fun w3 b5 hb5 eb3 hs3 c3 => ?_)
  refine L_set (.plain rfl) rfl Bk.au (r_store (v := .int _ _) rfl rfl rfl rfl Bk.au (by first | decide | (simp; done) | omega)) (fun w4 hb4 hs4 c4 => ?_)
  try simp only [List.setIfInBounds_toArray, List.set_cons_zero, List.set_cons_succ] at hb4
  refine L_nil ?_
  refine W_seq ?_
  refine W_region ?_
  refine L_r (r_lb rfl rfl) ?_
  refine L_r (r_funcL (l1 := []) (l2 := [.pointer _, .pointer _, .pointer _]) rfl rfl) ?_
  refine L_call (.plain rfl) rfl rfl (r_call Tryz.func32 rfl rfl rfl (by rfl)) (dcount_walk base b _ _ _ v l a e 0 most _ (hR.nw Ch.au) Bk.au Bk.au Bk.au hmo (by omega)) ?_
  rintro v9 w5 ⟨x1, rfl, hR1, hq1, c5, hx1⟩
  have hz5 := c5.size
  refine L_r (r_ab rfl) ?_
  refine L_nil ?_
  refine W_seq ?_
  refine W_seq ?_
  refine W_region ?_
  refine L_r (r_mb rfl) ?_
  refine L_r (r_not rfl) ?_
  refine L_nil ?_
  refine W_bool rfl (fun h11 => ?_) (fun h11 => ?_)
  · refine W_seq ?_
    refine W_region ?_
    refine L_r (r_ai rfl) ?_
    refine L_nil ?_
    refine W_ret ?_
    refine ret1 (v := .int _ _) rfl rfl ?_
    first
    | (have he : e = 0 ∧ (countR most (l.drop a)).1 = 0 := by (first | simpa using h11 | (have hq := h11; simp at hq; omega))
       obtain ⟨rfl, hz⟩ := he
       exact ⟨by rw [got_ok hz]; have hxx := hx1 rfl hz; (rw [hxx]), hR1.nw Ch.au, Ch.au⟩)
    | (have he : ¬ (e = 0 ∧ (countR most (l.drop a)).1 = 0) := by (first | simpa using h11 | (have hq := h11; simp at hq; omega))
       exact ⟨by (rw [show ∀ x d : Nat, got (a, e) (countR most (l.drop a)).1 x d = d from fun x d => if_neg he]) <;> rfl, hR1.nw Ch.au, Ch.au⟩)
  · have hcond : e = 0 ∧ (countR most (l.drop a)).1 = 0 := by simpa using h11
    have hle := countR_le hcond.2
    have hxl := hx1 hcond.1 hcond.2
    have hrl := hR.hl
    rw [List.length_drop] at hle
    refine W_skip ?_
    refine W_seq ?_
    refine W_region ?_
    refine L_r (r_lb rfl rfl) ?_
    refine L_r (r_conv Tryz.underlying23 Tryz.underlying3 rfl (by first | exact wr_i64 (by omega) | rfl)) ?_
    refine L_r (r_ai rfl) ?_
    refine L_nil ?_
    refine W_ret ?_
    refine ret1 (v := .int _ _) rfl rfl ?_
    first
    | (have he : e = 0 ∧ (countR most (l.drop a)).1 = 0 := by (first | simpa using h11 | (have hq := h11; simp at hq; omega))
       obtain ⟨rfl, hz⟩ := he
       exact ⟨by rw [got_ok hz]; have hxx := hx1 rfl hz; (rw [hxx]), hR1.nw Ch.au, Ch.au⟩)
    | (have he : ¬ (e = 0 ∧ (countR most (l.drop a)).1 = 0) := by (first | simpa using h11 | (have hq := h11; simp at hq; omega))
       exact ⟨by (rw [show ∀ x d : Nat, got (a, e) (countR most (l.drop a)).1 x d = d from fun x d => if_neg he]) <;> rfl, hR1.nw Ch.au, Ch.au⟩)
theorem rdtext_walk (base b : Nat) (v : Value) (l : List UInt8) (a : Nat) (e : Int) (w0 : World) (hR : RdAt base w0 b v l a e) (hT : Tabs base w0) (hb : base ≤ w0.heap.size) : Does Tryz.prog 29 #[.pointer (some ⟨b, 0, none⟩)] w0 (fun r w' => r = .string (sb (got (a, e) (textR (l.drop a)).1 (textR (l.drop a)).2.1 [])) ∧ RdAt base w' b v l (nxt (a, e) (textR (l.drop a)).1 (textR (l.drop a)).2.2).1 (nxt (a, e) (textR (l.drop a)).1 (textR (l.drop a)).2.2).2 ∧ Ch (fun j => j = b) w0 w') := by
  have hlb := hR.bk.lt
  refine fn_of (n := 9) (args := [.pointer (some ⟨b, 0, none⟩)]) Tryz.func29 rfl rfl rfl ?_
  refine W_seq ?_
  refine W_region ?_
  refine L_new (.plain rfl) rfl rfl (r_box1 (v := .pointer _) rfl rfl) (fun w1 b1 hb1 eb1 hs1 c1 => ?_)
  refine L_r (r_as rfl) ?_
  refine L_nil ?_
  refine W_seq ?_
  refine W_region ?_
  refine L_new (.plain rfl) rfl rfl (r_alloc1 rfl rfl) (fun w2 b3 hb3 eb2 hs2 c2 => ?_)
  refine L_set (.plain rfl) rfl Bk.au (r_store (v := .string _) rfl rfl rfl rfl Bk.au (by first | decide | (simp; done) | omega)) (fun w3 hb3 hs3 c3 => ?_)
  try simp only [List.setIfInBounds_toArray, List.set_cons_zero, List.set_cons_succ] at hb3
  refine L_nil ?_
  refine W_seq ?_
  refine W_seq ?_
  refine W_region ?_
  refine L_r (r_lb rfl rfl) ?_
  refine L_r (r_funcL (l1 := []) (l2 := [.pointer _, .pointer _]) rfl rfl) ?_
  refine L_call (.plain rfl) rfl rfl (r_call Tryz.func32 rfl rfl rfl (by rfl)) (dtext_walk base b _ _ v l a e [] _ (hR.nw Ch.au) Bk.au Bk.au (hT.nw Ch.au hb) (by omega) (by omega)) ?_
  rintro v6 w4 ⟨x1, rfl, hR1, hq1, c4, hx1⟩
  have hz4 := c4.size
  refine L_r (r_not rfl) ?_
  refine L_nil ?_
  refine W_bool rfl (fun h7 => ?_) (fun h7 => ?_)
  · refine W_seq ?_
    refine W_region ?_
    refine L_r (r_as rfl) ?_
    refine L_nil ?_
    refine W_ret ?_
    refine ret1 (v := .string _) rfl rfl ?_
    first
    | (have he : e = 0 ∧ (textR (l.drop a)).1 = 0 := by (first | simpa using h7 | (have hq := h7; simp at hq; omega))
       obtain ⟨rfl, hz⟩ := he
       exact ⟨by rw [got_ok hz]; have hxx := hx1 rfl hz; (rw [hxx]), hR1.nw Ch.au, Ch.au⟩)
    | (have he : ¬ (e = 0 ∧ (textR (l.drop a)).1 = 0) := by (first | simpa using h7 | (have hq := h7; simp at hq; omega))
       exact ⟨by (rw [show ∀ x d : List UInt8, got (a, e) (textR (l.drop a)).1 x d = d from fun x d => if_neg he]) <;> rfl, hR1.nw Ch.au, Ch.au⟩)
  · refine W_skip ?_
    refine W_seq ?_
    refine W_region ?_
    refine L_r (r_lb rfl rfl) ?_
    refine L_r (r_as rfl) ?_
    refine L_nil ?_
    refine W_ret ?_
    refine ret1 (v := .string _) rfl rfl ?_
    first
    | (have he : e = 0 ∧ (textR (l.drop a)).1 = 0 := by (first | simpa using h7 | (have hq := h7; simp at hq; omega))
       obtain ⟨rfl, hz⟩ := he
       exact ⟨by rw [got_ok hz]; have hxx := hx1 rfl hz; (rw [hxx]), hR1.nw Ch.au, Ch.au⟩)
    | (have he : ¬ (e = 0 ∧ (textR (l.drop a)).1 = 0) := by (first | simpa using h7 | (have hq := h7; simp at hq; omega))
       exact ⟨by (rw [show ∀ x d : List UInt8, got (a, e) (textR (l.drop a)).1 x d = d from fun x d => if_neg he]) <;> rfl, hR1.nw Ch.au, Ch.au⟩)
theorem rdint_walk (base b : Nat) (v : Value) (l : List UInt8) (a : Nat) (e : Int) (w0 : World) (hR : RdAt base w0 b v l a e) (hb : base ≤ w0.heap.size) : Does Tryz.prog 28 #[.pointer (some ⟨b, 0, none⟩)] w0 (fun r w' => r = .int .i64 (zagI (got (a, e) (numL 0 (l.drop a)).1 (numL 0 (l.drop a)).2.1 0 : Nat)) ∧ RdAt base w' b v l (nxt (a, e) (numL 0 (l.drop a)).1 (numL 0 (l.drop a)).2.2).1 (nxt (a, e) (numL 0 (l.drop a)).1 (numL 0 (l.drop a)).2.2).2 ∧ Ch (fun j => j = b) w0 w') := by
  refine fn_of (n := 6) (args := [.pointer (some ⟨b, 0, none⟩)]) Tryz.func28 rfl rfl rfl ?_
  refine W_seq ?_
  refine W_region ?_
  refine L_r (r_ai rfl) ?_
  refine L_nil ?_
  refine W_seq ?_
  refine W_region ?_
  refine L_r (r_mp rfl) ?_
  refine L_call (.plain rfl) rfl rfl (r_call Tryz.func13 rfl rfl rfl (by rfl)) (rdnum_walk base b v l a e _ (hR.nw Ch.au) (by omega)) ?_
  rintro v4 w1 ⟨rfl, hR1, c1⟩
  have hz1 := c1.size
  refine L_call (.plain rfl) rfl rfl (r_call Tryz.func57 rfl rfl rfl (by rfl)) (zag_walk _ _ (got_num_range a e (l.drop a))) ?_
  rintro v5 w2 ⟨rfl, rfl⟩
  refine L_r (r_ai rfl) ?_
  refine L_nil ?_
  refine W_ret ?_
  refine ret1 (v := .int _ _) rfl rfl ?_
  exact ⟨rfl, hR1.nw Ch.au, Ch.au⟩
theorem rdend_walk (base b : Nat) (v : Value) (l : List UInt8) (a : Nat) (e : Int) (w0 : World) (hR : RdAt base w0 b v l a e) : Does Tryz.prog 14 #[.pointer (some ⟨b, 0, none⟩)] w0 (fun r w' => r = .tuple #[.int .i64 (if e = 0 ∧ a = l.length then 0 else a), .int .i64 (if e = 0 ∧ a ≠ l.length then 13 else e)] ∧ Nw w0 w') := by
  have hbk := hR.bk
  have ha := hR.ha
  refine fn_of (n := 25) (args := [.pointer (some ⟨b, 0, none⟩)]) Tryz.func14 rfl rfl rfl ?_
  refine W_seq ?_
  refine W_region ?_
  refine L_r (r_ai rfl) ?_
  refine L_r (r_ai rfl) ?_
  refine L_nil ?_
  refine W_seq ?_
  refine W_region ?_
  refine L_r (r_mp rfl) ?_
  refine L_r (r_funcL (l1 := [_]) (l2 := []) rfl rfl) ?_
  refine L_r (r_av) ?_
  refine L_nil ?_
  refine W_seq ?_
  refine W_seq ?_
  refine W_region ?_
  refine L_r (r_mp rfl) ?_
  refine L_r (r_nilCheck rfl) ?_
  refine L_r (r_fieldb Tryz.underlying53 rfl (show _ = some 1 from rfl) rfl rfl (show _ = 2 from rfl)) ?_
  refine L_r (r_lb rfl rfl) ?_
  refine L_r (r_eql rfl rfl) ?_
  refine L_r (r_mb rfl) ?_
  refine L_case (d := 12) rfl (fun h12 => ?_) (fun h12 => ?_)
  · refine L_g (r_mv) ?_
    refine L_call (.yes 5 true rfl rfl) rfl rfl (r_call Tryz.func35 rfl rfl rfl (by rfl)) (left_walk base b v l a e _ (hR.nw Ch.au)) ?_
    rintro v14 w1 ⟨rfl, c1⟩
    have hz1 := c1.size
    refine L_g (r_gtr rfl rfl) ?_
    refine L_r (r_pt rfl rfl) ?_
    refine L_nil ?_
    refine W_if rfl (fun h16 => ?_) (fun h16 => ?_)
    · refine W_seq ?_
      refine W_region ?_
      refine L_r (r_mp rfl) ?_
      refine L_r (r_nilCheck rfl) ?_
      refine L_r (r_fieldb Tryz.underlying53 rfl (show _ = some 1 from rfl) rfl rfl (show _ = 1 from rfl)) ?_
      refine L_r (r_lb rfl rfl) ?_
      refine L_r (r_ai rfl) ?_
      refine L_r (r_ai rfl) ?_
      refine L_nil ?_
      refine W_ret ?_
      refine ret2 (u := .int _ _) (v := .int _ _) rfl rfl rfl ?_
      first
      | (have h1 : e = 0 ∧ a ≠ l.length := by omega
         have h2 : ¬ (e = 0 ∧ a = l.length) := by omega
         rw [if_pos h1, if_neg h2]
         exact ⟨rfl, Ch.au⟩)
      | (have h1 : ¬ (e = 0 ∧ a ≠ l.length) := by omega
         rw [if_neg h1]
         refine ⟨?_, Ch.au⟩
         by_cases h2 : e = 0
         · rw [if_pos h2, if_pos ⟨h2, by omega⟩]
         · rw [if_neg h2, if_neg (fun h => h2 h.1)])
    · refine W_skip ?_
      refine W_seq ?_
      refine W_region ?_
      refine L_r (r_mp rfl) ?_
      refine L_call (.plain rfl) rfl rfl (r_call Tryz.func30 rfl rfl rfl (by rfl)) (err_walk base b v l a e _ (hR.nw Ch.au)) ?_
      rintro v22 w2 ⟨rfl, c2⟩
      have hz2 := c2.size
      refine L_r (r_ext2_0 rfl) ?_
      refine L_r (r_ext2_1 rfl) ?_
      refine L_r (r_ai rfl) ?_
      refine L_r (r_ai rfl) ?_
      refine L_nil ?_
      refine W_ret ?_
      refine ret2 (u := .int _ _) (v := .int _ _) rfl rfl rfl ?_
      first
      | (have h1 : e = 0 ∧ a ≠ l.length := by omega
         have h2 : ¬ (e = 0 ∧ a = l.length) := by omega
         rw [if_pos h1, if_neg h2]
         exact ⟨rfl, Ch.au⟩)
      | (have h1 : ¬ (e = 0 ∧ a ≠ l.length) := by omega
         rw [if_neg h1]
         refine ⟨?_, Ch.au⟩
         by_cases h2 : e = 0
         · rw [if_pos h2, if_pos ⟨h2, by omega⟩]
         · rw [if_neg h2, if_neg (fun h => h2 h.1)])
  · refine L_ps ?_
    refine L_ps ?_
    refine L_ps ?_
    refine L_r (r_pf rfl rfl) ?_
    refine L_nil ?_
    refine W_false rfl ?_
    refine W_skip ?_
    refine W_seq ?_
    refine W_region ?_
    refine L_r (r_mp rfl) ?_
    refine L_call (.plain rfl) rfl rfl (r_call Tryz.func30 rfl rfl rfl (by rfl)) (err_walk base b v l a e _ (hR.nw Ch.au)) ?_
    rintro v22 w3 ⟨rfl, c3⟩
    have hz3 := c3.size
    refine L_r (r_ext2_0 rfl) ?_
    refine L_r (r_ext2_1 rfl) ?_
    refine L_r (r_ai rfl) ?_
    refine L_r (r_ai rfl) ?_
    refine L_nil ?_
    refine W_ret ?_
    refine ret2 (u := .int _ _) (v := .int _ _) rfl rfl rfl ?_
    first
    | (have h1 : e = 0 ∧ a ≠ l.length := by omega
       have h2 : ¬ (e = 0 ∧ a = l.length) := by omega
       rw [if_pos h1, if_neg h2]
       exact ⟨rfl, Ch.au⟩)
    | (have h1 : ¬ (e = 0 ∧ a ≠ l.length) := by omega
       rw [if_neg h1]
       refine ⟨?_, Ch.au⟩
       by_cases h2 : e = 0
       · rw [if_pos h2, if_pos ⟨h2, by omega⟩]
       · rw [if_neg h2, if_neg (fun h => h2 h.1)])
theorem read_walk (v : Value) (l : List UInt8) (w0 : World) (hv : Sl w0 v 1 l.length (l.map b8)) (hl : l.length ≤ 100000000) : Does Tryz.prog 9 #[v] w0 (fun r w' => ∃ b v', r = .pointer (some ⟨b, 0, none⟩) ∧ RdAt w0.heap.size w' b v' l 0 0 ∧ Nw w0 w') := by
  refine fn_of (n := 7) (args := [v]) Tryz.func9 rfl rfl rfl ?_
  refine W_seq ?_
  refine W_region ?_
  refine L_r (r_ap rfl) ?_
  refine L_nil ?_
  refine W_seq ?_
  refine W_region ?_
  refine L_r (r_mv) ?_
  refine L_call (.plain rfl) rfl rfl (r_call Tryz.func22 rfl rfl rfl (by rfl)) (clone_walk v l _ Sl.au hl) ?_
  rintro v4 w1 ⟨v1, rfl, ho1, c1⟩
  have hz1 := c1.size
  obtain ⟨sa, sn, sc, rfl⟩ := ow_form ho1
  refine L_r (r_build1 (pl := [(0, 1), (1, 1), (2, 1)]) (vs := [(0, .slice _ _ _)]) (cells := [_, _, _]) Tryz.underlying53 rfl rfl (by rfl) rfl (by rfl)) ?_
  refine L_new (.plain rfl) rfl rfl (r_boxa rfl) (fun w2 b6 hb6 eb2 hs2 c2 => ?_)
  refine L_r (r_ap rfl) ?_
  refine L_nil ?_
  refine W_ret ?_
  refine ret1 (v := .pointer _) rfl rfl ?_
  exact ⟨_, _, rfl, ⟨Bk.au, by omega, Ow.au, by omega, hl⟩, Ch.au⟩
end Go.Proofs.YtioonbfinnigpaaGreatDoor

