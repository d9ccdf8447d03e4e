/- What is read of a reader, from outside; walked. (Printed by tools/mkpacke.py.) -/
import Derived.Test.YtcbcelfgbelaoaaDoorPackD
namespace Go.Proofs.YtcbcelfgbelaoaaDoor
open Go Go.RowKit
set_option linter.unusedVariables false
set_option linter.unusedSimpArgs false
theorem countR_le {most : Int} {m : List UInt8} (h : (countR most m).1 = 0) : (countR most m).2.1 ≤ m.length := by
  unfold countR at h ⊢
  split at h
  · exact absurd h (by decide)
  · rename_i hn
    rw [if_neg hn]
    omega
theorem ow_form {w : World} {base e sz n : Nat} {v : Value} {xs : List Value} (h : Ow w base e sz v n xs) : ∃ a m c, v = .slice a m c := by
  obtain ⟨_, ⟨h, _⟩ | ⟨g, cap, cur, h, _⟩⟩ := h
  · exact ⟨_, _, _, h⟩
  · exact ⟨_, _, _, h⟩
theorem numL_lt : ∀ (m : List UInt8) (i : Nat), i ≤ 9 → (numL i m).2.1 < 2 ^ (64 - 7 * i)
  | [], i, h => by simp [numL]; exact Nat.two_pow_pos _
  | c :: t, i, h => by
    rw [numL]
    split
    · exact Nat.two_pow_pos _
    · rename_i h1
      split
      · split
        · exact Nat.two_pow_pos _
        · show c.toNat < _
          by_cases e : i = 9
          · subst e
            show c.toNat < 2
            omega
          · have h2 : 2 ^ 7 ≤ 2 ^ (64 - 7 * i) := Nat.pow_le_pow_right (by decide) (by omega)
            omega
      · by_cases e : i = 9
        · have := UInt8.toNat_lt c
          omega
        · have h3 := numL_lt t (i + 1) (by omega)
          have h4 : 2 ^ (64 - 7 * i) = 2 ^ (64 - 7 * (i + 1)) * 2 ^ 7 := by rw [← Nat.pow_add]; congr 1; omega
          show c.toNat % 128 + 128 * (numL (i + 1) t).2.1 < _
          omega
theorem got_num_range (a : Nat) (e : Int) (m : List UInt8) : 0 ≤ ((got (a, e) (numL 0 m).1 (numL 0 m).2.1 0 : Nat) : Int) ∧ ((got (a, e) (numL 0 m).1 (numL 0 m).2.1 0 : Nat) : Int) ≤ 18446744073709551615 := by
  have h := numL_lt m 0 (by decide)
  have h2 : 2 ^ (64 - 7 * 0) = 18446744073709551616 := by decide
  rw [h2] at h
  unfold got
  split <;> omega
theorem rdnum_walk (base b : Nat) (v : Value) (l : List UInt8) (a : Nat) (e : Int) (w0 : World) (hR : RdAt base w0 b v l a e) (hb : base ≤ w0.heap.size) : Does Tryd.prog 27 #[.pointer (some ⟨b, 0, none⟩)] w0 (fun r w' => r = .int .u64 ((got (a, e) (numL 0 (l.drop a)).1 (numL 0 (l.drop a)).2.1 0 : Nat) : Int) ∧ RdAt base w' b v l (nxt (a, e) (numL 0 (l.drop a)).1 (numL 0 (l.drop a)).2.2).1 (nxt (a, e) (numL 0 (l.drop a)).1 (numL 0 (l.drop a)).2.2).2 ∧ Ch (fun j => j = b) w0 w') := by
  have hlb := hR.bk.lt
  refine fn_of (n := 9) (args := [.pointer (some ⟨b, 0, none⟩)]) Tryd.func27 rfl rfl rfl ?_
  refine W_seq ?_
  refine W_region ?_
  refine L_new (.plain rfl) rfl rfl (r_box1 (v := .pointer _) rfl rfl) (fun w1 b1 hb1 eb1 hs1 c1 => ?_)
  refine L_run (.plain rfl) rfl rfl (r_assign (v := .int _ _) rfl) ?_
  refine L_nil ?_
  refine W_seq ?_
  refine W_region ?_
  refine L_new (.plain rfl) rfl rfl (r_alloc1 rfl rfl) (fun w2 b3 hb3 eb2 hs2 c2 => ?_)
  refine L_set (.plain rfl) rfl (by (exact Bk.to (by assumption) (by (repeat (first | exact Sm.refl _ _ | (refine Sm.stepT (by assumption) (by intro hlt hsm; first | exact not_no | (intro he; have he2 : _ = _ := he; omega)) ?_)))))) (r_store (v := .int _ _) rfl rfl rfl rfl (by (exact Bk.to (by assumption) (by (repeat (first | exact Sm.refl _ _ | (refine Sm.stepT (by assumption) (by intro hlt hsm; first | exact not_no | (intro he; have he2 : _ = _ := he; omega)) ?_)))))) (by first | decide | (simp; done) | omega)) (fun w3 hb3 hs3 c3 => ?_)
  try simp only [List.setIfInBounds_toArray, List.set_cons_zero, List.set_cons_succ] at hb3
  refine L_nil ?_
  refine W_seq ?_
  refine W_seq ?_
  refine W_region ?_
  refine L_run (.plain rfl) rfl rfl (r_loadb rfl rfl (by (exact Bk.to (by assumption) (by (repeat (first | exact Sm.refl _ _ | (refine Sm.stepT (by assumption) (by intro hlt hsm; first | exact not_no | (intro he; have he2 : _ = _ := he; omega)) ?_)))))) (by first | assumption | (conv => lhs; simp only [List.getElem?_toArray, List.getElem?_cons_succ, List.getElem?_cons_zero]))) ?_
  refine L_run (.plain rfl) rfl rfl (r_funcL (l1 := []) (l2 := [.pointer _, .pointer _]) rfl rfl) ?_
  refine L_call (.plain rfl) rfl rfl (r_call Tryd.func41 rfl rfl rfl (by rfl)) (dnum_walk base b _ _ v l a e 0 _ (hR.nw (by (repeat (first | exact Ch.refl _ | assumption | (refine Ch.fresh ?_ (by assumption) (by intro i hi he; first | exact he | exact (not_no he).elim | (exfalso; have he2 : i = _ := he; omega) | (rcases he with he | he <;> (first | exact he | exact Or.inl he | exact Or.inr he | (exfalso; have he2 : i = _ := he; omega))))))))) (by (exact Bk.to (by assumption) (by (repeat (first | exact Sm.refl _ _ | (refine Sm.stepT (by assumption) (by intro hlt hsm; first | exact not_no | (intro he; have he2 : _ = _ := he; omega)) ?_)))))) (by (exact Bk.to (by assumption) (by (repeat (first | exact Sm.refl _ _ | (refine Sm.stepT (by assumption) (by intro hlt hsm; first | exact not_no | (intro he; have he2 : _ = _ := he; omega)) ?_)))))) (by omega)) ?_
  rintro v6 w4 ⟨x1, rfl, hR1, hq1, c4, hx1⟩
  have hz4 := c4.size
  refine L_run (.plain rfl) rfl rfl (r_not rfl) ?_
  refine L_nil ?_
  refine W_bool rfl (fun h7 => ?_) (fun h7 => ?_)
  · refine W_seq ?_
    refine W_region ?_
    refine L_run (.plain rfl) rfl rfl (r_assign (v := .int _ _) rfl) ?_
    refine L_nil ?_
    refine W_ret ?_
    refine ret1 (v := .int _ _) rfl rfl ?_
    first
    | (have he : e = 0 ∧ (numL 0 (l.drop a)).1 = 0 := by (first | simpa using h7 | (have hq := h7; simp at hq; omega))
       obtain ⟨rfl, hz⟩ := he
       exact ⟨by rw [got_ok hz]; have hxx := hx1 rfl hz; (rw [hxx]), hR1.nw (by (repeat (first | exact Ch.refl _ | assumption | (refine Ch.fresh ?_ (by assumption) (by intro i hi he; first | exact he | exact (not_no he).elim | (exfalso; have he2 : i = _ := he; omega) | (rcases he with he | he <;> (first | exact he | exact Or.inl he | exact Or.inr he | (exfalso; have he2 : i = _ := he; omega)))))))), by (repeat (first | exact Ch.refl _ | assumption | (refine Ch.fresh ?_ (by assumption) (by intro i hi he; first | exact he | exact (not_no he).elim | (exfalso; have he2 : i = _ := he; omega) | (rcases he with he | he <;> (first | exact he | exact Or.inl he | exact Or.inr he | (exfalso; have he2 : i = _ := he; omega)))))))⟩)
    | (have he : ¬ (e = 0 ∧ (numL 0 (l.drop a)).1 = 0) := by (first | simpa using h7 | (have hq := h7; simp at hq; omega))
       exact ⟨by (rw [show ∀ x d : Nat, got (a, e) (numL 0 (l.drop a)).1 x d = d from fun x d => if_neg he]) <;> rfl, hR1.nw (by (repeat (first | exact Ch.refl _ | assumption | (refine Ch.fresh ?_ (by assumption) (by intro i hi he; first | exact he | exact (not_no he).elim | (exfalso; have he2 : i = _ := he; omega) | (rcases he with he | he <;> (first | exact he | exact Or.inl he | exact Or.inr he | (exfalso; have he2 : i = _ := he; omega)))))))), by (repeat (first | exact Ch.refl _ | assumption | (refine Ch.fresh ?_ (by assumption) (by intro i hi he; first | exact he | exact (not_no he).elim | (exfalso; have he2 : i = _ := he; omega) | (rcases he with he | he <;> (first | exact he | exact Or.inl he | exact Or.inr he | (exfalso; have he2 : i = _ := he; omega)))))))⟩)
  · refine W_skip ?_
    refine W_seq ?_
    refine W_region ?_
    refine L_run (.plain rfl) rfl rfl (r_loadb rfl rfl (by (exact Bk.to (by assumption) (by (repeat (first | exact Sm.refl _ _ | (refine Sm.stepT (by assumption) (by intro hlt hsm; first | exact not_no | (intro he; have he2 : _ = _ := he; omega)) ?_)))))) (by first | assumption | (conv => lhs; simp only [List.getElem?_toArray, List.getElem?_cons_succ, List.getElem?_cons_zero]))) ?_
    refine L_run (.plain rfl) rfl rfl (r_assign (v := .int _ _) rfl) ?_
    refine L_nil ?_
    refine W_ret ?_
    refine ret1 (v := .int _ _) rfl rfl ?_
    first
    | (have he : e = 0 ∧ (numL 0 (l.drop a)).1 = 0 := by (first | simpa using h7 | (have hq := h7; simp at hq; omega))
       obtain ⟨rfl, hz⟩ := he
       exact ⟨by rw [got_ok hz]; have hxx := hx1 rfl hz; (rw [hxx]), hR1.nw (by (repeat (first | exact Ch.refl _ | assumption | (refine Ch.fresh ?_ (by assumption) (by intro i hi he; first | exact he | exact (not_no he).elim | (exfalso; have he2 : i = _ := he; omega) | (rcases he with he | he <;> (first | exact he | exact Or.inl he | exact Or.inr he | (exfalso; have he2 : i = _ := he; omega)))))))), by (repeat (first | exact Ch.refl _ | assumption | (refine Ch.fresh ?_ (by assumption) (by intro i hi he; first | exact he | exact (not_no he).elim | (exfalso; have he2 : i = _ := he; omega) | (rcases he with he | he <;> (first | exact he | exact Or.inl he | exact Or.inr he | (exfalso; have he2 : i = _ := he; omega)))))))⟩)
    | (have he : ¬ (e = 0 ∧ (numL 0 (l.drop a)).1 = 0) := by (first | simpa using h7 | (have hq := h7; simp at hq; omega))
       exact ⟨by (rw [show ∀ x d : Nat, got (a, e) (numL 0 (l.drop a)).1 x d = d from fun x d => if_neg he]) <;> rfl, hR1.nw (by (repeat (first | exact Ch.refl _ | assumption | (refine Ch.fresh ?_ (by assumption) (by intro i hi he; first | exact he | exact (not_no he).elim | (exfalso; have he2 : i = _ := he; omega) | (rcases he with he | he <;> (first | exact he | exact Or.inl he | exact Or.inr he | (exfalso; have he2 : i = _ := he; omega)))))))), by (repeat (first | exact Ch.refl _ | assumption | (refine Ch.fresh ?_ (by assumption) (by intro i hi he; first | exact he | exact (not_no he).elim | (exfalso; have he2 : i = _ := he; omega) | (rcases he with he | he <;> (first | exact he | exact Or.inl he | exact Or.inr he | (exfalso; have he2 : i = _ := he; omega)))))))⟩)
theorem rdtext_walk (base b : Nat) (v : Value) (l : List UInt8) (a : Nat) (e : Int) (w0 : World) (hR : RdAt base w0 b v l a e) (hT : Tabs base w0) (hb : base ≤ w0.heap.size) : Does Tryd.prog 29 #[.pointer (some ⟨b, 0, none⟩)] w0 (fun r w' => r = .string (sb (got (a, e) (textR (l.drop a)).1 (textR (l.drop a)).2.1 [])) ∧ RdAt base w' b v l (nxt (a, e) (textR (l.drop a)).1 (textR (l.drop a)).2.2).1 (nxt (a, e) (textR (l.drop a)).1 (textR (l.drop a)).2.2).2 ∧ Ch (fun j => j = b) w0 w') := by
  have hlb := hR.bk.lt
  refine fn_of (n := 9) (args := [.pointer (some ⟨b, 0, none⟩)]) Tryd.func29 rfl rfl rfl ?_
  refine W_seq ?_
  refine W_region ?_
  refine L_new (.plain rfl) rfl rfl (r_box1 (v := .pointer _) rfl rfl) (fun w1 b1 hb1 eb1 hs1 c1 => ?_)
  refine L_run (.plain rfl) rfl rfl (r_assign (v := .string _) rfl) ?_
  refine L_nil ?_
  refine W_seq ?_
  refine W_region ?_
  refine L_new (.plain rfl) rfl rfl (r_alloc1 rfl rfl) (fun w2 b3 hb3 eb2 hs2 c2 => ?_)
  refine L_set (.plain rfl) rfl (by (exact Bk.to (by assumption) (by (repeat (first | exact Sm.refl _ _ | (refine Sm.stepT (by assumption) (by intro hlt hsm; first | exact not_no | (intro he; have he2 : _ = _ := he; omega)) ?_)))))) (r_store (v := .string _) rfl rfl rfl rfl (by (exact Bk.to (by assumption) (by (repeat (first | exact Sm.refl _ _ | (refine Sm.stepT (by assumption) (by intro hlt hsm; first | exact not_no | (intro he; have he2 : _ = _ := he; omega)) ?_)))))) (by first | decide | (simp; done) | omega)) (fun w3 hb3 hs3 c3 => ?_)
  try simp only [List.setIfInBounds_toArray, List.set_cons_zero, List.set_cons_succ] at hb3
  refine L_nil ?_
  refine W_seq ?_
  refine W_seq ?_
  refine W_region ?_
  refine L_run (.plain rfl) rfl rfl (r_loadb rfl rfl (by (exact Bk.to (by assumption) (by (repeat (first | exact Sm.refl _ _ | (refine Sm.stepT (by assumption) (by intro hlt hsm; first | exact not_no | (intro he; have he2 : _ = _ := he; omega)) ?_)))))) (by first | assumption | (conv => lhs; simp only [List.getElem?_toArray, List.getElem?_cons_succ, List.getElem?_cons_zero]))) ?_
  refine L_run (.plain rfl) rfl rfl (r_funcL (l1 := []) (l2 := [.pointer _, .pointer _]) rfl rfl) ?_
  refine L_call (.plain rfl) rfl rfl (r_call Tryd.func41 rfl rfl rfl (by rfl)) (dtext_walk base b _ _ v l a e [] _ (hR.nw (by (repeat (first | exact Ch.refl _ | assumption | (refine Ch.fresh ?_ (by assumption) (by intro i hi he; first | exact he | exact (not_no he).elim | (exfalso; have he2 : i = _ := he; omega) | (rcases he with he | he <;> (first | exact he | exact Or.inl he | exact Or.inr he | (exfalso; have he2 : i = _ := he; omega))))))))) (by (exact Bk.to (by assumption) (by (repeat (first | exact Sm.refl _ _ | (refine Sm.stepT (by assumption) (by intro hlt hsm; first | exact not_no | (intro he; have he2 : _ = _ := he; omega)) ?_)))))) (by (exact Bk.to (by assumption) (by (repeat (first | exact Sm.refl _ _ | (refine Sm.stepT (by assumption) (by intro hlt hsm; first | exact not_no | (intro he; have he2 : _ = _ := he; omega)) ?_)))))) (hT.nw (by (repeat (first | exact Ch.refl _ | assumption | (refine Ch.fresh ?_ (by assumption) (by intro i hi he; first | exact he | exact (not_no he).elim | (exfalso; have he2 : i = _ := he; omega) | (rcases he with he | he <;> (first | exact he | exact Or.inl he | exact Or.inr he | (exfalso; have he2 : i = _ := he; omega)))))))) hb) (by omega) (by omega)) ?_
  rintro v6 w4 ⟨x1, rfl, hR1, hq1, c4, hx1⟩
  have hz4 := c4.size
  refine L_run (.plain rfl) rfl rfl (r_not rfl) ?_
  refine L_nil ?_
  refine W_bool rfl (fun h7 => ?_) (fun h7 => ?_)
  · refine W_seq ?_
    refine W_region ?_
    refine L_run (.plain rfl) rfl rfl (r_assign (v := .string _) rfl) ?_
    refine L_nil ?_
    refine W_ret ?_
    refine ret1 (v := .string _) rfl rfl ?_
    first
    | (have he : e = 0 ∧ (textR (l.drop a)).1 = 0 := by (first | simpa using h7 | (have hq := h7; simp at hq; omega))
       obtain ⟨rfl, hz⟩ := he
       exact ⟨by rw [got_ok hz]; have hxx := hx1 rfl hz; (rw [hxx]), hR1.nw (by (repeat (first | exact Ch.refl _ | assumption | (refine Ch.fresh ?_ (by assumption) (by intro i hi he; first | exact he | exact (not_no he).elim | (exfalso; have he2 : i = _ := he; omega) | (rcases he with he | he <;> (first | exact he | exact Or.inl he | exact Or.inr he | (exfalso; have he2 : i = _ := he; omega)))))))), by (repeat (first | exact Ch.refl _ | assumption | (refine Ch.fresh ?_ (by assumption) (by intro i hi he; first | exact he | exact (not_no he).elim | (exfalso; have he2 : i = _ := he; omega) | (rcases he with he | he <;> (first | exact he | exact Or.inl he | exact Or.inr he | (exfalso; have he2 : i = _ := he; omega)))))))⟩)
    | (have he : ¬ (e = 0 ∧ (textR (l.drop a)).1 = 0) := by (first | simpa using h7 | (have hq := h7; simp at hq; omega))
       exact ⟨by (rw [show ∀ x d : List UInt8, got (a, e) (textR (l.drop a)).1 x d = d from fun x d => if_neg he]) <;> rfl, hR1.nw (by (repeat (first | exact Ch.refl _ | assumption | (refine Ch.fresh ?_ (by assumption) (by intro i hi he; first | exact he | exact (not_no he).elim | (exfalso; have he2 : i = _ := he; omega) | (rcases he with he | he <;> (first | exact he | exact Or.inl he | exact Or.inr he | (exfalso; have he2 : i = _ := he; omega)))))))), by (repeat (first | exact Ch.refl _ | assumption | (refine Ch.fresh ?_ (by assumption) (by intro i hi he; first | exact he | exact (not_no he).elim | (exfalso; have he2 : i = _ := he; omega) | (rcases he with he | he <;> (first | exact he | exact Or.inl he | exact Or.inr he | (exfalso; have he2 : i = _ := he; omega)))))))⟩)
  · refine W_skip ?_
    refine W_seq ?_
    refine W_region ?_
    refine L_run (.plain rfl) rfl rfl (r_loadb rfl rfl (by (exact Bk.to (by assumption) (by (repeat (first | exact Sm.refl _ _ | (refine Sm.stepT (by assumption) (by intro hlt hsm; first | exact not_no | (intro he; have he2 : _ = _ := he; omega)) ?_)))))) (by first | assumption | (conv => lhs; simp only [List.getElem?_toArray, List.getElem?_cons_succ, List.getElem?_cons_zero]))) ?_
    refine L_run (.plain rfl) rfl rfl (r_assign (v := .string _) rfl) ?_
    refine L_nil ?_
    refine W_ret ?_
    refine ret1 (v := .string _) rfl rfl ?_
    first
    | (have he : e = 0 ∧ (textR (l.drop a)).1 = 0 := by (first | simpa using h7 | (have hq := h7; simp at hq; omega))
       obtain ⟨rfl, hz⟩ := he
       exact ⟨by rw [got_ok hz]; have hxx := hx1 rfl hz; (rw [hxx]), hR1.nw (by (repeat (first | exact Ch.refl _ | assumption | (refine Ch.fresh ?_ (by assumption) (by intro i hi he; first | exact he | exact (not_no he).elim | (exfalso; have he2 : i = _ := he; omega) | (rcases he with he | he <;> (first | exact he | exact Or.inl he | exact Or.inr he | (exfalso; have he2 : i = _ := he; omega)))))))), by (repeat (first | exact Ch.refl _ | assumption | (refine Ch.fresh ?_ (by assumption) (by intro i hi he; first | exact he | exact (not_no he).elim | (exfalso; have he2 : i = _ := he; omega) | (rcases he with he | he <;> (first | exact he | exact Or.inl he | exact Or.inr he | (exfalso; have he2 : i = _ := he; omega)))))))⟩)
    | (have he : ¬ (e = 0 ∧ (textR (l.drop a)).1 = 0) := by (first | simpa using h7 | (have hq := h7; simp at hq; omega))
       exact ⟨by (rw [show ∀ x d : List UInt8, got (a, e) (textR (l.drop a)).1 x d = d from fun x d => if_neg he]) <;> rfl, hR1.nw (by (repeat (first | exact Ch.refl _ | assumption | (refine Ch.fresh ?_ (by assumption) (by intro i hi he; first | exact he | exact (not_no he).elim | (exfalso; have he2 : i = _ := he; omega) | (rcases he with he | he <;> (first | exact he | exact Or.inl he | exact Or.inr he | (exfalso; have he2 : i = _ := he; omega)))))))), by (repeat (first | exact Ch.refl _ | assumption | (refine Ch.fresh ?_ (by assumption) (by intro i hi he; first | exact he | exact (not_no he).elim | (exfalso; have he2 : i = _ := he; omega) | (rcases he with he | he <;> (first | exact he | exact Or.inl he | exact Or.inr he | (exfalso; have he2 : i = _ := he; omega)))))))⟩)
theorem read_walk (v : Value) (l : List UInt8) (w0 : World) (hv : Sl w0 v 1 l.length (l.map b8)) (hl : l.length ≤ 100000000) : Does Tryd.prog 26 #[v] w0 (fun r w' => ∃ b v', r = .pointer (some ⟨b, 0, none⟩) ∧ RdAt w0.heap.size w' b v' l 0 0 ∧ Nw w0 w') := by
  refine fn_of (n := 7) (args := [v]) Tryd.func26 rfl rfl rfl ?_
  refine W_seq ?_
  refine W_region ?_
  refine L_run (.plain rfl) rfl rfl (r_assign (v := .pointer _) rfl) ?_
  refine L_nil ?_
  refine W_seq ?_
  refine W_region ?_
  refine L_run (.plain rfl) rfl rfl (r_move (by conv => lhs; whnf)) ?_
  refine L_call (.plain rfl) rfl rfl (r_call Tryd.func37 rfl rfl rfl (by rfl)) (clone_walk v l _ (by (exact Sl.to (by first | assumption | exact Sl.own (by assumption) | exact Mu.sl (by assumption) | exact Ow.sl (by assumption)) (fun i hi => by (repeat (first | exact Sm.refl _ _ | (refine Sm.stepT (by assumption) (by intro hlt hsm; exact not_no) ?_)))))) hl) ?_
  rintro v4 w1 ⟨v1, rfl, ho1, c1⟩
  have hz1 := c1.size
  obtain ⟨sa, sn, sc, rfl⟩ := ow_form ho1
  refine L_run (.plain rfl) rfl rfl (r_build1 (pl := [(0, 1), (1, 1), (2, 1)]) (vs := [(0, .slice _ _ _)]) (cells := [_, _, _]) Tryd.underlying69 rfl rfl (by rfl) rfl (by rfl)) ?_
  refine L_new (.plain rfl) rfl rfl (r_boxa rfl) (fun w2 b6 hb6 eb2 hs2 c2 => ?_)
  refine L_run (.plain rfl) rfl rfl (r_assign (v := .pointer _) rfl) ?_
  refine L_nil ?_
  refine W_ret ?_
  refine ret1 (v := .pointer _) rfl rfl ?_
  exact ⟨_, _, rfl, ⟨by (exact Bk.to (by assumption) (by (repeat (first | exact Sm.refl _ _ | (refine Sm.stepT (by assumption) (by intro hlt hsm; exact not_no) ?_))))), by omega, by (exact Ow.to (by first | assumption | exact Ow.of (by assumption)) (fun i hi => by (repeat (first | exact Sm.refl _ _ | (refine Sm.stepT (by assumption) (by intro hlt hsm; exact not_no) ?_))))), by omega, hl⟩, by (repeat (first | exact Ch.refl _ | assumption | (refine Ch.fresh ?_ (by assumption) (by intro i hi he; exact he))))⟩
end Go.Proofs.YtcbcelfgbelaoaaDoor

