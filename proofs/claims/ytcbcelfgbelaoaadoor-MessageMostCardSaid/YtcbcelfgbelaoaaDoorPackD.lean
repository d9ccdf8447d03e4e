/- The reader's do, once for each of its closures; walked. (Printed by tools/mkpackd.py.) -/
import Derived.Test.YtcbcelfgbelaoaaDoorPackT
namespace Go.Proofs.YtcbcelfgbelaoaaDoor
open Go Go.RowKit
set_option linter.unusedVariables false
set_option linter.unusedSimpArgs false
/-- Where a reader goes on, and its error, when it was asked for something. -/
def nxt (s : Nat × Int) (e : Int) (k : Nat) : Nat × Int := if s.2 ≠ 0 then s else if e ≠ 0 then (s.1, e) else (s.1 + k, 0)
def got {β : Type} (s : Nat × Int) (e : Int) (x d : β) : β := if s.2 = 0 ∧ e = 0 then x else d
theorem nxt_bad {a : Nat} {e : Int} (h : e ≠ 0) (e' : Int) (k : Nat) : nxt (a, e) e' k = (a, e) := if_pos h
theorem nxt_err {a : Nat} {e' : Int} (h : e' ≠ 0) (k : Nat) : nxt (a, 0) e' k = (a, e') := by rw [nxt, if_neg (by simp), if_pos h]
theorem nxt_ok {a : Nat} {e' : Int} (h : e' = 0) (k : Nat) : nxt (a, 0) e' k = (a + k, e') := by subst h; rfl
theorem got_bad {β : Type} {a : Nat} {e : Int} (h : e ≠ 0) (e' : Int) (x d : β) : got (a, e) e' x d = d := if_neg fun h' => h h'.1
theorem got_err {β : Type} {a : Nat} {e' : Int} (h : e' ≠ 0) (x d : β) : got (a, 0) e' x d = d := if_neg fun h' => h h'.2
theorem got_ok {β : Type} {a : Nat} {e' : Int} (h : e' = 0) (x d : β) : got (a, 0) e' x d = x := if_pos ⟨rfl, h⟩
theorem cnum_walk (base b p q : Nat) (v : Value) (l : List UInt8) (a : Nat) (e : Int) (x0 : Int) (w0 : World) (hR : RdAt base w0 b v l a e) (hp : Bk w0 p #[.pointer (some ⟨b, 0, none⟩)] 52) (hq : Bk w0 q #[.int .u64 x0] 22) (hb : base ≤ w0.heap.size) : Does Tryd.prog 42 #[.pointer (some ⟨p, 0, none⟩), .pointer (some ⟨q, 0, none⟩)] w0 (fun r w' => ∃ (a' : Nat) (x : Int), r = .int .i64 (numL 0 (l.drop a)).1 ∧ RdAt base w' b v l a' e ∧ Bk w' q #[.int .u64 x] 22 ∧ Ch (fun j => j = b ∨ j = q) w0 w' ∧ ((numL 0 (l.drop a)).1 = 0 → a' = a + (numL 0 (l.drop a)).2.2 ∧ x = (numL 0 (l.drop a)).2.1)) := by
  refine fn_of (n := 5) (args := [.pointer (some ⟨p, 0, none⟩), .pointer (some ⟨q, 0, none⟩)]) Tryd.func42 rfl rfl rfl ?_
  refine W_seq ?_
  refine W_region ?_
  refine L_run (.plain rfl) rfl rfl (r_assign (v := .int _ _) rfl) ?_
  refine L_nil ?_
  refine W_seq ?_
  refine W_region ?_
  refine L_run (.plain rfl) rfl rfl (r_loadb rfl rfl (by (exact Bk.to (by assumption) (by (repeat (first | exact Sm.refl _ _ | (refine Sm.stepT (by assumption) (by intro hlt hsm; exact not_no) ?_)))))) (by first | assumption | (conv => lhs; simp only [List.getElem?_toArray, List.getElem?_cons_succ, List.getElem?_cons_zero]))) ?_
  refine L_call (.plain rfl) rfl rfl (r_call Tryd.func43 rfl rfl rfl (by rfl)) (number_walk base b q v l a e x0 _ (hR.nw (by (repeat (first | exact Ch.refl _ | assumption | (refine Ch.fresh ?_ (by assumption) (by intro i hi he; exact (not_no he).elim)))))) (by (exact Bk.to (by assumption) (by (repeat (first | exact Sm.refl _ _ | (refine Sm.stepT (by assumption) (by intro hlt hsm; exact not_no) ?_)))))) (by omega)) ?_
  rintro v4 w1 ⟨a1, x1, rfl, hR1, hq1, c1, hn1⟩
  have hz1 := c1.size
  refine L_run (.plain rfl) rfl rfl (r_assign (v := .int _ _) rfl) ?_
  refine L_nil ?_
  refine W_ret ?_
  refine ret1 (v := .int _ _) rfl rfl ?_
  exact ⟨a1, x1, rfl, hR1.nw (by (repeat (first | exact Ch.refl _ | assumption | (refine Ch.fresh ?_ (by assumption) (by intro i hi he; exact (not_no he).elim))))), by (exact Bk.to (by assumption) (by (repeat (first | exact Sm.refl _ _ | (refine Sm.stepT (by assumption) (by intro hlt hsm; exact not_no) ?_))))), by (repeat (first | exact Ch.refl _ | assumption | (refine Ch.fresh ?_ (by assumption) (by intro i hi he; exact (not_no he).elim)))), hn1⟩
theorem dnum_walk (base b p q : Nat) (v : Value) (l : List UInt8) (a : Nat) (e : Int) (x0 : Int) (w0 : World) (hR : RdAt base w0 b v l a e) (hp : Bk w0 p #[.pointer (some ⟨b, 0, none⟩)] 52) (hq : Bk w0 q #[.int .u64 x0] 22) (hb : base ≤ w0.heap.size) : Does Tryd.prog 41 #[.pointer (some ⟨b, 0, none⟩), .func (.func 42) #[] #[.pointer (some ⟨p, 0, none⟩), .pointer (some ⟨q, 0, none⟩)]] w0 (fun r w' => ∃ x : Int, r = .bool (decide (e = 0 ∧ (numL 0 (l.drop a)).1 = 0)) ∧ RdAt base w' b v l (nxt (a, e) (numL 0 (l.drop a)).1 (numL 0 (l.drop a)).2.2).1 (nxt (a, e) (numL 0 (l.drop a)).1 (numL 0 (l.drop a)).2.2).2 ∧ Bk w' q #[.int .u64 x] 22 ∧ Ch (fun j => j = b ∨ j = q) w0 w' ∧ (e = 0 → (numL 0 (l.drop a)).1 = 0 → x = (numL 0 (l.drop a)).2.1)) := by
  have hbk := hR.bk
  have how := hR.ow
  have ha := hR.ha
  have hl := hR.hl
  have hnv := hR.nov
  have hne := Bk.ne hbk hq (by decide)
  have hqv := ow_nb hR.ow hq (by decide)
  have hlb := hbk.lt
  have hlq := hq.lt
  refine fn_of (n := 29) (args := [.pointer (some ⟨b, 0, none⟩), .func (.func 42) #[] #[.pointer (some ⟨p, 0, none⟩), .pointer (some ⟨q, 0, none⟩)]]) Tryd.func41 rfl rfl rfl ?_
  refine W_seq ?_
  refine W_region ?_
  refine L_run (.plain rfl) rfl rfl (r_assign (v := .bool _) rfl) ?_
  refine L_nil ?_
  refine W_seq ?_
  refine W_seq ?_
  refine W_region ?_
  refine L_run (.plain rfl) rfl rfl (r_move (v := .pointer _) rfl) ?_
  refine L_run (.plain rfl) rfl rfl (r_nilCheck rfl) ?_
  refine L_run (.plain rfl) rfl rfl (r_fieldb Tryd.underlying69 rfl (show _ = some 1 from rfl) rfl rfl (show _ = 2 from rfl)) ?_
  refine L_run (.plain rfl) rfl rfl (r_loadb rfl rfl (by (exact Bk.to (by assumption) (by (repeat (first | exact Sm.refl _ _ | (refine Sm.stepT (by assumption) (by intro hlt hsm; first | (intro he; have he2 : _ = _ := he; omega) | (intro he; have he2 : _ = _ := he; rw [he2] at hi; exact absurd hi (by assumption))) ?_)))))) (by first | assumption | (conv => lhs; simp only [List.getElem?_toArray, List.getElem?_cons_succ, List.getElem?_cons_zero]))) ?_
  refine L_run (.plain rfl) rfl rfl (r_neq rfl rfl) ?_
  refine L_nil ?_
  refine W_if rfl (fun h10 => ?_) (fun h10 => ?_)
  · refine W_seq ?_
    refine W_region ?_
    refine L_run (.plain rfl) rfl rfl (r_assign (v := .bool _) rfl) ?_
    refine L_nil ?_
    refine W_ret ?_
    refine ret1 (v := .bool _) rfl rfl ?_
    first
    | (have he : e ≠ 0 := by assumption
       rw [nxt_bad he]
       exact ⟨x0, congrArg Value.bool (decide_eq_false (fun h => he h.1)).symm, ⟨by (exact Bk.to (by assumption) (by (repeat (first | exact Sm.refl _ _ | (refine Sm.stepT (by assumption) (by intro hlt hsm; first | (intro he; have he2 : _ = _ := he; omega) | (intro he; have he2 : _ = _ := he; rw [he2] at hi; exact absurd hi (by assumption))) ?_))))), hR.hb, by (exact Ow.to (by first | assumption | exact Ow.of (by assumption)) (fun i hi => by (repeat (first | exact Sm.refl _ _ | (refine Sm.stepT (by assumption) (by intro hlt hsm; first | (intro he; have he2 : _ = _ := he; omega) | (intro he; have he2 : _ = _ := he; rw [he2] at hi; exact absurd hi (by assumption))) ?_))))), by omega, hl⟩, by (exact Bk.to (by assumption) (by (repeat (first | exact Sm.refl _ _ | (refine Sm.stepT (by assumption) (by intro hlt hsm; first | (intro he; have he2 : _ = _ := he; omega) | (intro he; have he2 : _ = _ := he; rw [he2] at hi; exact absurd hi (by assumption))) ?_))))), by (repeat (first | exact Ch.refl _ | assumption | (refine Ch.fresh ?_ (by assumption) (by intro i hi he; exact Or.inl he)))), fun h => absurd h he⟩)
    | (obtain rfl : e = 0 := by omega
       have hz : (numL 0 (l.drop a)).1 ≠ 0 := by assumption
       rw [nxt_err hz]
       exact ⟨x1, congrArg Value.bool (decide_eq_false (fun h => hz h.2)).symm, ⟨by (exact Bk.to (by assumption) (by (repeat (first | exact Sm.refl _ _ | (refine Sm.stepT (by assumption) (by intro hlt hsm; first | (intro he; have he2 : _ = _ := he; omega) | (intro he; have he2 : _ = _ := he; rw [he2] at hi; exact absurd hi (by assumption))) ?_))))), hR.hb, by (exact Ow.to (by first | assumption | exact Ow.of (by assumption)) (fun i hi => by (repeat (first | exact Sm.refl _ _ | (refine Sm.stepT (by assumption) (by intro hlt hsm; first | (intro he; have he2 : _ = _ := he; omega) | (intro he; have he2 : _ = _ := he; rw [he2] at hi; exact absurd hi (by assumption))) ?_))))), by omega, hl⟩, by (exact Bk.to (by assumption) (by (repeat (first | exact Sm.refl _ _ | (refine Sm.stepT (by assumption) (by intro hlt hsm; first | (intro he; have he2 : _ = _ := he; omega) | (intro he; have he2 : _ = _ := he; rw [he2] at hi; exact absurd hi (by assumption))) ?_))))), by (repeat (first | exact Ch.refl _ | assumption | (refine Ch.fresh ?_ (by assumption) (by intro i hi he; exact Or.inl he)))), fun _ h => absurd h hz⟩)
    | (obtain rfl : e = 0 := by omega
       have hz : (numL 0 (l.drop a)).1 = 0 := by omega
       obtain ⟨hA, hX⟩ := hn1 hz
       subst hA
       rw [nxt_ok hz]
       exact ⟨x1, congrArg Value.bool (decide_eq_true ⟨rfl, hz⟩).symm, ⟨by (exact Bk.to (by assumption) (by (repeat (first | exact Sm.refl _ _ | (refine Sm.stepT (by assumption) (by intro hlt hsm; first | (intro he; have he2 : _ = _ := he; omega) | (intro he; have he2 : _ = _ := he; rw [he2] at hi; exact absurd hi (by assumption))) ?_))))), hR.hb, by (exact Ow.to (by first | assumption | exact Ow.of (by assumption)) (fun i hi => by (repeat (first | exact Sm.refl _ _ | (refine Sm.stepT (by assumption) (by intro hlt hsm; first | (intro he; have he2 : _ = _ := he; omega) | (intro he; have he2 : _ = _ := he; rw [he2] at hi; exact absurd hi (by assumption))) ?_))))), ha1, hl⟩, by (exact Bk.to (by assumption) (by (repeat (first | exact Sm.refl _ _ | (refine Sm.stepT (by assumption) (by intro hlt hsm; first | (intro he; have he2 : _ = _ := he; omega) | (intro he; have he2 : _ = _ := he; rw [he2] at hi; exact absurd hi (by assumption))) ?_))))), by (repeat (first | exact Ch.refl _ | assumption | (refine Ch.fresh ?_ (by assumption) (by intro i hi he; exact Or.inl he)))), fun _ _ => hX⟩)
  · refine W_skip ?_
    refine W_seq ?_
    refine W_region ?_
    refine L_run (.plain rfl) rfl rfl (r_move (v := .pointer _) rfl) ?_
    refine L_run (.plain rfl) rfl rfl (r_nilCheck rfl) ?_
    refine L_run (.plain rfl) rfl rfl (r_fieldb Tryd.underlying69 rfl (show _ = some 1 from rfl) rfl rfl (show _ = 1 from rfl)) ?_
    refine L_run (.plain rfl) rfl rfl (r_loadb rfl rfl (by (exact Bk.to (by assumption) (by (repeat (first | exact Sm.refl _ _ | (refine Sm.stepT (by assumption) (by intro hlt hsm; first | (intro he; have he2 : _ = _ := he; omega) | (intro he; have he2 : _ = _ := he; rw [he2] at hi; exact absurd hi (by assumption))) ?_)))))) (by first | assumption | (conv => lhs; simp only [List.getElem?_toArray, List.getElem?_cons_succ, List.getElem?_cons_zero]))) ?_
    refine L_run (.plain rfl) rfl rfl (r_assign (v := .int _ _) rfl) ?_
    refine L_nil ?_
    refine W_seq ?_
    refine W_seq ?_
    refine W_region ?_
    refine L_run (.plain rfl) rfl rfl (r_move (v := .pointer _) rfl) ?_
    refine L_run (.plain rfl) rfl rfl (r_move (by conv => lhs; whnf)) ?_
    refine L_call (.plain rfl) rfl rfl (r_call Tryd.func42 rfl rfl rfl (by rfl)) (cnum_walk base b p q v l a e x0 _ (hR.nw (by (repeat (first | exact Ch.refl _ | assumption | (refine Ch.fresh ?_ (by assumption) (by intro i hi he; exact Or.inl he)))))) (by (exact Bk.to (by assumption) (by (repeat (first | exact Sm.refl _ _ | (refine Sm.stepT (by assumption) (by intro hlt hsm; first | (intro he; have he2 : _ = _ := he; omega) | (intro he; have he2 : _ = _ := he; rw [he2] at hi; exact absurd hi (by assumption))) ?_)))))) (by (exact Bk.to (by assumption) (by (repeat (first | exact Sm.refl _ _ | (refine Sm.stepT (by assumption) (by intro hlt hsm; first | (intro he; have he2 : _ = _ := he; omega) | (intro he; have he2 : _ = _ := he; rw [he2] at hi; exact absurd hi (by assumption))) ?_)))))) (by omega)) ?_
    rintro v17 w1 ⟨a1, x1, rfl, hR1, hq1, c1, hn1⟩
    have hz1 := c1.size
    have hbk1 := hR1.bk
    have ha1 := hR1.ha
    have how1 := hR1.ow
    have hsl1 := hR1.ow.sl
    refine L_run (.plain rfl) rfl rfl (r_nilCheck rfl) ?_
    refine L_run (.plain rfl) rfl rfl (r_fieldb Tryd.underlying69 rfl (show _ = some 1 from rfl) rfl rfl (show _ = 2 from rfl)) ?_
    refine L_set (.plain rfl) rfl (by (exact Bk.to (by assumption) (by (repeat (first | exact Sm.refl _ _ | (refine Sm.stepT (by assumption) (by intro hlt hsm; first | (intro he; have he2 : _ = _ := he; omega) | (intro he; have he2 : _ = _ := he; rw [he2] at hi; exact absurd hi (by assumption))) ?_)))))) (r_store (v := .int _ _) rfl rfl rfl rfl (by (exact Bk.to (by assumption) (by (repeat (first | exact Sm.refl _ _ | (refine Sm.stepT (by assumption) (by intro hlt hsm; first | (intro he; have he2 : _ = _ := he; omega) | (intro he; have he2 : _ = _ := he; rw [he2] at hi; exact absurd hi (by assumption))) ?_)))))) (by first | decide | (simp; done) | omega)) (fun w2 hb2 hs2 c2 => ?_)
    try simp only [List.setIfInBounds_toArray, List.set_cons_zero, List.set_cons_succ] at hb2
    refine L_nil ?_
    refine W_seq ?_
    refine W_region ?_
    refine L_run (.plain rfl) rfl rfl (r_move (v := .pointer _) rfl) ?_
    refine L_run (.plain rfl) rfl rfl (r_nilCheck rfl) ?_
    refine L_run (.plain rfl) rfl rfl (r_fieldb Tryd.underlying69 rfl (show _ = some 1 from rfl) rfl rfl (show _ = 2 from rfl)) ?_
    refine L_run (.plain rfl) rfl rfl (r_loadb rfl rfl (by (exact Bk.to (by assumption) (by (repeat (first | exact Sm.refl _ _ | (refine Sm.stepT (by assumption) (by intro hlt hsm; first | (intro he; have he2 : _ = _ := he; omega) | (intro he; have he2 : _ = _ := he; rw [he2] at hi; exact absurd hi (by assumption))) ?_)))))) (by first | assumption | (conv => lhs; simp only [List.getElem?_toArray, List.getElem?_cons_succ, List.getElem?_cons_zero]))) ?_
    refine L_run (.plain rfl) rfl rfl (r_neq rfl rfl) ?_
    refine L_nil ?_
    refine W_if rfl (fun h24 => ?_) (fun h24 => ?_)
    · refine W_seq ?_
      refine W_region ?_
      refine L_run (.plain rfl) rfl rfl (r_move (v := .pointer _) rfl) ?_
      refine L_run (.plain rfl) rfl rfl (r_move (v := .int _ _) rfl) ?_
      refine L_run (.plain rfl) rfl rfl (r_nilCheck rfl) ?_
      refine L_run (.plain rfl) rfl rfl (r_fieldb Tryd.underlying69 rfl (show _ = some 1 from rfl) rfl rfl (show _ = 1 from rfl)) ?_
      refine L_set (.plain rfl) rfl (by (exact Bk.to (by assumption) (by (repeat (first | exact Sm.refl _ _ | (refine Sm.stepT (by assumption) (by intro hlt hsm; first | (intro he; have he2 : _ = _ := he; omega) | (intro he; have he2 : _ = _ := he; rw [he2] at hi; exact absurd hi (by assumption))) ?_)))))) (r_store (v := .int _ _) rfl rfl rfl rfl (by (exact Bk.to (by assumption) (by (repeat (first | exact Sm.refl _ _ | (refine Sm.stepT (by assumption) (by intro hlt hsm; first | (intro he; have he2 : _ = _ := he; omega) | (intro he; have he2 : _ = _ := he; rw [he2] at hi; exact absurd hi (by assumption))) ?_)))))) (by first | decide | (simp; done) | omega)) (fun w3 hb3 hs3 c3 => ?_)
      try simp only [List.setIfInBounds_toArray, List.set_cons_zero, List.set_cons_succ] at hb3
      refine L_nil ?_
      refine W_seq ?_
      refine W_region ?_
      refine L_run (.plain rfl) rfl rfl (r_assign (v := .bool _) rfl) ?_
      refine L_nil ?_
      refine W_ret ?_
      refine ret1 (v := .bool _) rfl rfl ?_
      first
      | (have he : e ≠ 0 := by assumption
         rw [nxt_bad he]
         exact ⟨x0, congrArg Value.bool (decide_eq_false (fun h => he h.1)).symm, ⟨by (exact Bk.to (by assumption) (by (repeat (first | exact Sm.refl _ _ | (refine Sm.stepT (by assumption) (by intro hlt hsm; first | (intro he; have he2 : _ = _ := he; omega) | (intro he; have he2 : _ = _ := he; rw [he2] at hi; exact absurd hi (by assumption))) ?_))))), hR.hb, by (exact Ow.to (by first | assumption | exact Ow.of (by assumption)) (fun i hi => by (repeat (first | exact Sm.refl _ _ | (refine Sm.stepT (by assumption) (by intro hlt hsm; first | (intro he; have he2 : _ = _ := he; omega) | (intro he; have he2 : _ = _ := he; rw [he2] at hi; exact absurd hi (by assumption))) ?_))))), by omega, hl⟩, by (exact Bk.to (by assumption) (by (repeat (first | exact Sm.refl _ _ | (refine Sm.stepT (by assumption) (by intro hlt hsm; first | (intro he; have he2 : _ = _ := he; omega) | (intro he; have he2 : _ = _ := he; rw [he2] at hi; exact absurd hi (by assumption))) ?_))))), by (repeat (first | exact Ch.refl _ | assumption | (refine Ch.fresh ?_ (by assumption) (by intro i hi he; exact Or.inl he)))), fun h => absurd h he⟩)
      | (obtain rfl : e = 0 := by omega
         have hz : (numL 0 (l.drop a)).1 ≠ 0 := by assumption
         rw [nxt_err hz]
         exact ⟨x1, congrArg Value.bool (decide_eq_false (fun h => hz h.2)).symm, ⟨by (exact Bk.to (by assumption) (by (repeat (first | exact Sm.refl _ _ | (refine Sm.stepT (by assumption) (by intro hlt hsm; first | (intro he; have he2 : _ = _ := he; omega) | (intro he; have he2 : _ = _ := he; rw [he2] at hi; exact absurd hi (by assumption))) ?_))))), hR.hb, by (exact Ow.to (by first | assumption | exact Ow.of (by assumption)) (fun i hi => by (repeat (first | exact Sm.refl _ _ | (refine Sm.stepT (by assumption) (by intro hlt hsm; first | (intro he; have he2 : _ = _ := he; omega) | (intro he; have he2 : _ = _ := he; rw [he2] at hi; exact absurd hi (by assumption))) ?_))))), by omega, hl⟩, by (exact Bk.to (by assumption) (by (repeat (first | exact Sm.refl _ _ | (refine Sm.stepT (by assumption) (by intro hlt hsm; first | (intro he; have he2 : _ = _ := he; omega) | (intro he; have he2 : _ = _ := he; rw [he2] at hi; exact absurd hi (by assumption))) ?_))))), by (repeat (first | exact Ch.refl _ | assumption | (refine Ch.fresh ?_ (by assumption) (by intro i hi he; exact Or.inl he)))), fun _ h => absurd h hz⟩)
      | (obtain rfl : e = 0 := by omega
         have hz : (numL 0 (l.drop a)).1 = 0 := by omega
         obtain ⟨hA, hX⟩ := hn1 hz
         subst hA
         rw [nxt_ok hz]
         exact ⟨x1, congrArg Value.bool (decide_eq_true ⟨rfl, hz⟩).symm, ⟨by (exact Bk.to (by assumption) (by (repeat (first | exact Sm.refl _ _ | (refine Sm.stepT (by assumption) (by intro hlt hsm; first | (intro he; have he2 : _ = _ := he; omega) | (intro he; have he2 : _ = _ := he; rw [he2] at hi; exact absurd hi (by assumption))) ?_))))), hR.hb, by (exact Ow.to (by first | assumption | exact Ow.of (by assumption)) (fun i hi => by (repeat (first | exact Sm.refl _ _ | (refine Sm.stepT (by assumption) (by intro hlt hsm; first | (intro he; have he2 : _ = _ := he; omega) | (intro he; have he2 : _ = _ := he; rw [he2] at hi; exact absurd hi (by assumption))) ?_))))), ha1, hl⟩, by (exact Bk.to (by assumption) (by (repeat (first | exact Sm.refl _ _ | (refine Sm.stepT (by assumption) (by intro hlt hsm; first | (intro he; have he2 : _ = _ := he; omega) | (intro he; have he2 : _ = _ := he; rw [he2] at hi; exact absurd hi (by assumption))) ?_))))), by (repeat (first | exact Ch.refl _ | assumption | (refine Ch.fresh ?_ (by assumption) (by intro i hi he; exact Or.inl he)))), fun _ _ => hX⟩)
    · refine W_skip ?_
      refine W_seq ?_
      refine W_region ?_
      refine L_run (.plain rfl) rfl rfl (r_assign (v := .bool _) rfl) ?_
      refine L_nil ?_
      refine W_ret ?_
      refine ret1 (v := .bool _) rfl rfl ?_
      first
      | (have he : e ≠ 0 := by assumption
         rw [nxt_bad he]
         exact ⟨x0, congrArg Value.bool (decide_eq_false (fun h => he h.1)).symm, ⟨by (exact Bk.to (by assumption) (by (repeat (first | exact Sm.refl _ _ | (refine Sm.stepT (by assumption) (by intro hlt hsm; first | (intro he; have he2 : _ = _ := he; omega) | (intro he; have he2 : _ = _ := he; rw [he2] at hi; exact absurd hi (by assumption))) ?_))))), hR.hb, by (exact Ow.to (by first | assumption | exact Ow.of (by assumption)) (fun i hi => by (repeat (first | exact Sm.refl _ _ | (refine Sm.stepT (by assumption) (by intro hlt hsm; first | (intro he; have he2 : _ = _ := he; omega) | (intro he; have he2 : _ = _ := he; rw [he2] at hi; exact absurd hi (by assumption))) ?_))))), by omega, hl⟩, by (exact Bk.to (by assumption) (by (repeat (first | exact Sm.refl _ _ | (refine Sm.stepT (by assumption) (by intro hlt hsm; first | (intro he; have he2 : _ = _ := he; omega) | (intro he; have he2 : _ = _ := he; rw [he2] at hi; exact absurd hi (by assumption))) ?_))))), by (repeat (first | exact Ch.refl _ | assumption | (refine Ch.fresh ?_ (by assumption) (by intro i hi he; exact Or.inl he)))), fun h => absurd h he⟩)
      | (obtain rfl : e = 0 := by omega
         have hz : (numL 0 (l.drop a)).1 ≠ 0 := by assumption
         rw [nxt_err hz]
         exact ⟨x1, congrArg Value.bool (decide_eq_false (fun h => hz h.2)).symm, ⟨by (exact Bk.to (by assumption) (by (repeat (first | exact Sm.refl _ _ | (refine Sm.stepT (by assumption) (by intro hlt hsm; first | (intro he; have he2 : _ = _ := he; omega) | (intro he; have he2 : _ = _ := he; rw [he2] at hi; exact absurd hi (by assumption))) ?_))))), hR.hb, by (exact Ow.to (by first | assumption | exact Ow.of (by assumption)) (fun i hi => by (repeat (first | exact Sm.refl _ _ | (refine Sm.stepT (by assumption) (by intro hlt hsm; first | (intro he; have he2 : _ = _ := he; omega) | (intro he; have he2 : _ = _ := he; rw [he2] at hi; exact absurd hi (by assumption))) ?_))))), by omega, hl⟩, by (exact Bk.to (by assumption) (by (repeat (first | exact Sm.refl _ _ | (refine Sm.stepT (by assumption) (by intro hlt hsm; first | (intro he; have he2 : _ = _ := he; omega) | (intro he; have he2 : _ = _ := he; rw [he2] at hi; exact absurd hi (by assumption))) ?_))))), by (repeat (first | exact Ch.refl _ | assumption | (refine Ch.fresh ?_ (by assumption) (by intro i hi he; exact Or.inl he)))), fun _ h => absurd h hz⟩)
      | (obtain rfl : e = 0 := by omega
         have hz : (numL 0 (l.drop a)).1 = 0 := by omega
         obtain ⟨hA, hX⟩ := hn1 hz
         subst hA
         rw [nxt_ok hz]
         exact ⟨x1, congrArg Value.bool (decide_eq_true ⟨rfl, hz⟩).symm, ⟨by (exact Bk.to (by assumption) (by (repeat (first | exact Sm.refl _ _ | (refine Sm.stepT (by assumption) (by intro hlt hsm; first | (intro he; have he2 : _ = _ := he; omega) | (intro he; have he2 : _ = _ := he; rw [he2] at hi; exact absurd hi (by assumption))) ?_))))), hR.hb, by (exact Ow.to (by first | assumption | exact Ow.of (by assumption)) (fun i hi => by (repeat (first | exact Sm.refl _ _ | (refine Sm.stepT (by assumption) (by intro hlt hsm; first | (intro he; have he2 : _ = _ := he; omega) | (intro he; have he2 : _ = _ := he; rw [he2] at hi; exact absurd hi (by assumption))) ?_))))), ha1, hl⟩, by (exact Bk.to (by assumption) (by (repeat (first | exact Sm.refl _ _ | (refine Sm.stepT (by assumption) (by intro hlt hsm; first | (intro he; have he2 : _ = _ := he; omega) | (intro he; have he2 : _ = _ := he; rw [he2] at hi; exact absurd hi (by assumption))) ?_))))), by (repeat (first | exact Ch.refl _ | assumption | (refine Ch.fresh ?_ (by assumption) (by intro i hi he; exact Or.inl he)))), fun _ _ => hX⟩)
theorem ctext_walk (base b p q : Nat) (v : Value) (l : List UInt8) (a : Nat) (e : Int) (x0 : List UInt8) (w0 : World) (hR : RdAt base w0 b v l a e) (hp : Bk w0 p #[.pointer (some ⟨b, 0, none⟩)] 52) (hq : Bk w0 q #[.string (sb x0)] 9) (hT : Tabs base w0) (hbq : base ≤ q) (hb : base ≤ w0.heap.size) : Does Tryd.prog 44 #[.pointer (some ⟨p, 0, none⟩), .pointer (some ⟨q, 0, none⟩)] w0 (fun r w' => ∃ (a' : Nat) (x : List UInt8), r = .int .i64 (textR (l.drop a)).1 ∧ RdAt base w' b v l a' e ∧ Bk w' q #[.string (sb x)] 9 ∧ Ch (fun j => j = b ∨ j = q) w0 w' ∧ ((textR (l.drop a)).1 = 0 → a' = a + (textR (l.drop a)).2.2 ∧ x = (textR (l.drop a)).2.1)) := by
  refine fn_of (n := 5) (args := [.pointer (some ⟨p, 0, none⟩), .pointer (some ⟨q, 0, none⟩)]) Tryd.func44 rfl rfl rfl ?_
  refine W_seq ?_
  refine W_region ?_
  refine L_run (.plain rfl) rfl rfl (r_assign (v := .int _ _) rfl) ?_
  refine L_nil ?_
  refine W_seq ?_
  refine W_region ?_
  refine L_run (.plain rfl) rfl rfl (r_loadb rfl rfl (by (exact Bk.to (by assumption) (by (repeat (first | exact Sm.refl _ _ | (refine Sm.stepT (by assumption) (by intro hlt hsm; exact not_no) ?_)))))) (by first | assumption | (conv => lhs; simp only [List.getElem?_toArray, List.getElem?_cons_succ, List.getElem?_cons_zero]))) ?_
  refine L_call (.plain rfl) rfl rfl (r_call Tryd.func45 rfl rfl rfl (by rfl)) (text_walk base b q v l a e x0 _ (hR.nw (by (repeat (first | exact Ch.refl _ | assumption | (refine Ch.fresh ?_ (by assumption) (by intro i hi he; exact (not_no he).elim)))))) (by (exact Bk.to (by assumption) (by (repeat (first | exact Sm.refl _ _ | (refine Sm.stepT (by assumption) (by intro hlt hsm; exact not_no) ?_)))))) (hT.nw (by (repeat (first | exact Ch.refl _ | assumption | (refine Ch.fresh ?_ (by assumption) (by intro i hi he; exact (not_no he).elim))))) hb) (by omega) hbq) ?_
  rintro v4 w1 ⟨a1, x1, rfl, hR1, hq1, c1, hn1⟩
  have hz1 := c1.size
  refine L_run (.plain rfl) rfl rfl (r_assign (v := .int _ _) rfl) ?_
  refine L_nil ?_
  refine W_ret ?_
  refine ret1 (v := .int _ _) rfl rfl ?_
  exact ⟨a1, x1, rfl, hR1.nw (by (repeat (first | exact Ch.refl _ | assumption | (refine Ch.fresh ?_ (by assumption) (by intro i hi he; exact (not_no he).elim))))), by (exact Bk.to (by assumption) (by (repeat (first | exact Sm.refl _ _ | (refine Sm.stepT (by assumption) (by intro hlt hsm; exact not_no) ?_))))), by (repeat (first | exact Ch.refl _ | assumption | (refine Ch.fresh ?_ (by assumption) (by intro i hi he; exact (not_no he).elim)))), hn1⟩
theorem dtext_walk (base b p q : Nat) (v : Value) (l : List UInt8) (a : Nat) (e : Int) (x0 : List UInt8) (w0 : World) (hR : RdAt base w0 b v l a e) (hp : Bk w0 p #[.pointer (some ⟨b, 0, none⟩)] 52) (hq : Bk w0 q #[.string (sb x0)] 9) (hT : Tabs base w0) (hbq : base ≤ q) (hb : base ≤ w0.heap.size) : Does Tryd.prog 41 #[.pointer (some ⟨b, 0, none⟩), .func (.func 44) #[] #[.pointer (some ⟨p, 0, none⟩), .pointer (some ⟨q, 0, none⟩)]] w0 (fun r w' => ∃ x : List UInt8, r = .bool (decide (e = 0 ∧ (textR (l.drop a)).1 = 0)) ∧ RdAt base w' b v l (nxt (a, e) (textR (l.drop a)).1 (textR (l.drop a)).2.2).1 (nxt (a, e) (textR (l.drop a)).1 (textR (l.drop a)).2.2).2 ∧ Bk w' q #[.string (sb x)] 9 ∧ Ch (fun j => j = b ∨ j = q) w0 w' ∧ (e = 0 → (textR (l.drop a)).1 = 0 → x = (textR (l.drop a)).2.1)) := by
  have hbk := hR.bk
  have how := hR.ow
  have ha := hR.ha
  have hl := hR.hl
  have hnv := hR.nov
  have hne := Bk.ne hbk hq (by decide)
  have hqv := ow_nb hR.ow hq (by decide)
  have hlb := hbk.lt
  have hlq := hq.lt
  refine fn_of (n := 29) (args := [.pointer (some ⟨b, 0, none⟩), .func (.func 44) #[] #[.pointer (some ⟨p, 0, none⟩), .pointer (some ⟨q, 0, none⟩)]]) Tryd.func41 rfl rfl rfl ?_
  refine W_seq ?_
  refine W_region ?_
  refine L_run (.plain rfl) rfl rfl (r_assign (v := .bool _) rfl) ?_
  refine L_nil ?_
  refine W_seq ?_
  refine W_seq ?_
  refine W_region ?_
  refine L_run (.plain rfl) rfl rfl (r_move (v := .pointer _) rfl) ?_
  refine L_run (.plain rfl) rfl rfl (r_nilCheck rfl) ?_
  refine L_run (.plain rfl) rfl rfl (r_fieldb Tryd.underlying69 rfl (show _ = some 1 from rfl) rfl rfl (show _ = 2 from rfl)) ?_
  refine L_run (.plain rfl) rfl rfl (r_loadb rfl rfl (by (exact Bk.to (by assumption) (by (repeat (first | exact Sm.refl _ _ | (refine Sm.stepT (by assumption) (by intro hlt hsm; first | (intro he; have he2 : _ = _ := he; omega) | (intro he; have he2 : _ = _ := he; rw [he2] at hi; exact absurd hi (by assumption))) ?_)))))) (by first | assumption | (conv => lhs; simp only [List.getElem?_toArray, List.getElem?_cons_succ, List.getElem?_cons_zero]))) ?_
  refine L_run (.plain rfl) rfl rfl (r_neq rfl rfl) ?_
  refine L_nil ?_
  refine W_if rfl (fun h10 => ?_) (fun h10 => ?_)
  · refine W_seq ?_
    refine W_region ?_
    refine L_run (.plain rfl) rfl rfl (r_assign (v := .bool _) rfl) ?_
    refine L_nil ?_
    refine W_ret ?_
    refine ret1 (v := .bool _) rfl rfl ?_
    first
    | (have he : e ≠ 0 := by assumption
       rw [nxt_bad he]
       exact ⟨x0, congrArg Value.bool (decide_eq_false (fun h => he h.1)).symm, ⟨by (exact Bk.to (by assumption) (by (repeat (first | exact Sm.refl _ _ | (refine Sm.stepT (by assumption) (by intro hlt hsm; first | (intro he; have he2 : _ = _ := he; omega) | (intro he; have he2 : _ = _ := he; rw [he2] at hi; exact absurd hi (by assumption))) ?_))))), hR.hb, by (exact Ow.to (by first | assumption | exact Ow.of (by assumption)) (fun i hi => by (repeat (first | exact Sm.refl _ _ | (refine Sm.stepT (by assumption) (by intro hlt hsm; first | (intro he; have he2 : _ = _ := he; omega) | (intro he; have he2 : _ = _ := he; rw [he2] at hi; exact absurd hi (by assumption))) ?_))))), by omega, hl⟩, by (exact Bk.to (by assumption) (by (repeat (first | exact Sm.refl _ _ | (refine Sm.stepT (by assumption) (by intro hlt hsm; first | (intro he; have he2 : _ = _ := he; omega) | (intro he; have he2 : _ = _ := he; rw [he2] at hi; exact absurd hi (by assumption))) ?_))))), by (repeat (first | exact Ch.refl _ | assumption | (refine Ch.fresh ?_ (by assumption) (by intro i hi he; exact Or.inl he)))), fun h => absurd h he⟩)
    | (obtain rfl : e = 0 := by omega
       have hz : (textR (l.drop a)).1 ≠ 0 := by assumption
       rw [nxt_err hz]
       exact ⟨x1, congrArg Value.bool (decide_eq_false (fun h => hz h.2)).symm, ⟨by (exact Bk.to (by assumption) (by (repeat (first | exact Sm.refl _ _ | (refine Sm.stepT (by assumption) (by intro hlt hsm; first | (intro he; have he2 : _ = _ := he; omega) | (intro he; have he2 : _ = _ := he; rw [he2] at hi; exact absurd hi (by assumption))) ?_))))), hR.hb, by (exact Ow.to (by first | assumption | exact Ow.of (by assumption)) (fun i hi => by (repeat (first | exact Sm.refl _ _ | (refine Sm.stepT (by assumption) (by intro hlt hsm; first | (intro he; have he2 : _ = _ := he; omega) | (intro he; have he2 : _ = _ := he; rw [he2] at hi; exact absurd hi (by assumption))) ?_))))), by omega, hl⟩, by (exact Bk.to (by assumption) (by (repeat (first | exact Sm.refl _ _ | (refine Sm.stepT (by assumption) (by intro hlt hsm; first | (intro he; have he2 : _ = _ := he; omega) | (intro he; have he2 : _ = _ := he; rw [he2] at hi; exact absurd hi (by assumption))) ?_))))), by (repeat (first | exact Ch.refl _ | assumption | (refine Ch.fresh ?_ (by assumption) (by intro i hi he; exact Or.inl he)))), fun _ h => absurd h hz⟩)
    | (obtain rfl : e = 0 := by omega
       have hz : (textR (l.drop a)).1 = 0 := by omega
       obtain ⟨hA, hX⟩ := hn1 hz
       subst hA
       rw [nxt_ok hz]
       exact ⟨x1, congrArg Value.bool (decide_eq_true ⟨rfl, hz⟩).symm, ⟨by (exact Bk.to (by assumption) (by (repeat (first | exact Sm.refl _ _ | (refine Sm.stepT (by assumption) (by intro hlt hsm; first | (intro he; have he2 : _ = _ := he; omega) | (intro he; have he2 : _ = _ := he; rw [he2] at hi; exact absurd hi (by assumption))) ?_))))), hR.hb, by (exact Ow.to (by first | assumption | exact Ow.of (by assumption)) (fun i hi => by (repeat (first | exact Sm.refl _ _ | (refine Sm.stepT (by assumption) (by intro hlt hsm; first | (intro he; have he2 : _ = _ := he; omega) | (intro he; have he2 : _ = _ := he; rw [he2] at hi; exact absurd hi (by assumption))) ?_))))), ha1, hl⟩, by (exact Bk.to (by assumption) (by (repeat (first | exact Sm.refl _ _ | (refine Sm.stepT (by assumption) (by intro hlt hsm; first | (intro he; have he2 : _ = _ := he; omega) | (intro he; have he2 : _ = _ := he; rw [he2] at hi; exact absurd hi (by assumption))) ?_))))), by (repeat (first | exact Ch.refl _ | assumption | (refine Ch.fresh ?_ (by assumption) (by intro i hi he; exact Or.inl he)))), fun _ _ => hX⟩)
  · refine W_skip ?_
    refine W_seq ?_
    refine W_region ?_
    refine L_run (.plain rfl) rfl rfl (r_move (v := .pointer _) rfl) ?_
    refine L_run (.plain rfl) rfl rfl (r_nilCheck rfl) ?_
    refine L_run (.plain rfl) rfl rfl (r_fieldb Tryd.underlying69 rfl (show _ = some 1 from rfl) rfl rfl (show _ = 1 from rfl)) ?_
    refine L_run (.plain rfl) rfl rfl (r_loadb rfl rfl (by (exact Bk.to (by assumption) (by (repeat (first | exact Sm.refl _ _ | (refine Sm.stepT (by assumption) (by intro hlt hsm; first | (intro he; have he2 : _ = _ := he; omega) | (intro he; have he2 : _ = _ := he; rw [he2] at hi; exact absurd hi (by assumption))) ?_)))))) (by first | assumption | (conv => lhs; simp only [List.getElem?_toArray, List.getElem?_cons_succ, List.getElem?_cons_zero]))) ?_
    refine L_run (.plain rfl) rfl rfl (r_assign (v := .int _ _) rfl) ?_
    refine L_nil ?_
    refine W_seq ?_
    refine W_seq ?_
    refine W_region ?_
    refine L_run (.plain rfl) rfl rfl (r_move (v := .pointer _) rfl) ?_
    refine L_run (.plain rfl) rfl rfl (r_move (by conv => lhs; whnf)) ?_
    refine L_call (.plain rfl) rfl rfl (r_call Tryd.func44 rfl rfl rfl (by rfl)) (ctext_walk base b p q v l a e x0 _ (hR.nw (by (repeat (first | exact Ch.refl _ | assumption | (refine Ch.fresh ?_ (by assumption) (by intro i hi he; exact Or.inl he)))))) (by (exact Bk.to (by assumption) (by (repeat (first | exact Sm.refl _ _ | (refine Sm.stepT (by assumption) (by intro hlt hsm; first | (intro he; have he2 : _ = _ := he; omega) | (intro he; have he2 : _ = _ := he; rw [he2] at hi; exact absurd hi (by assumption))) ?_)))))) (by (exact Bk.to (by assumption) (by (repeat (first | exact Sm.refl _ _ | (refine Sm.stepT (by assumption) (by intro hlt hsm; first | (intro he; have he2 : _ = _ := he; omega) | (intro he; have he2 : _ = _ := he; rw [he2] at hi; exact absurd hi (by assumption))) ?_)))))) (hT.nw (by (repeat (first | exact Ch.refl _ | assumption | (refine Ch.fresh ?_ (by assumption) (by intro i hi he; exact Or.inl he))))) hb) hbq (by omega)) ?_
    rintro v17 w1 ⟨a1, x1, rfl, hR1, hq1, c1, hn1⟩
    have hz1 := c1.size
    have hbk1 := hR1.bk
    have ha1 := hR1.ha
    have how1 := hR1.ow
    have hsl1 := hR1.ow.sl
    refine L_run (.plain rfl) rfl rfl (r_nilCheck rfl) ?_
    refine L_run (.plain rfl) rfl rfl (r_fieldb Tryd.underlying69 rfl (show _ = some 1 from rfl) rfl rfl (show _ = 2 from rfl)) ?_
    refine L_set (.plain rfl) rfl (by (exact Bk.to (by assumption) (by (repeat (first | exact Sm.refl _ _ | (refine Sm.stepT (by assumption) (by intro hlt hsm; first | (intro he; have he2 : _ = _ := he; omega) | (intro he; have he2 : _ = _ := he; rw [he2] at hi; exact absurd hi (by assumption))) ?_)))))) (r_store (v := .int _ _) rfl rfl rfl rfl (by (exact Bk.to (by assumption) (by (repeat (first | exact Sm.refl _ _ | (refine Sm.stepT (by assumption) (by intro hlt hsm; first | (intro he; have he2 : _ = _ := he; omega) | (intro he; have he2 : _ = _ := he; rw [he2] at hi; exact absurd hi (by assumption))) ?_)))))) (by first | decide | (simp; done) | omega)) (fun w2 hb2 hs2 c2 => ?_)
    try simp only [List.setIfInBounds_toArray, List.set_cons_zero, List.set_cons_succ] at hb2
    refine L_nil ?_
    refine W_seq ?_
    refine W_region ?_
    refine L_run (.plain rfl) rfl rfl (r_move (v := .pointer _) rfl) ?_
    refine L_run (.plain rfl) rfl rfl (r_nilCheck rfl) ?_
    refine L_run (.plain rfl) rfl rfl (r_fieldb Tryd.underlying69 rfl (show _ = some 1 from rfl) rfl rfl (show _ = 2 from rfl)) ?_
    refine L_run (.plain rfl) rfl rfl (r_loadb rfl rfl (by (exact Bk.to (by assumption) (by (repeat (first | exact Sm.refl _ _ | (refine Sm.stepT (by assumption) (by intro hlt hsm; first | (intro he; have he2 : _ = _ := he; omega) | (intro he; have he2 : _ = _ := he; rw [he2] at hi; exact absurd hi (by assumption))) ?_)))))) (by first | assumption | (conv => lhs; simp only [List.getElem?_toArray, List.getElem?_cons_succ, List.getElem?_cons_zero]))) ?_
    refine L_run (.plain rfl) rfl rfl (r_neq rfl rfl) ?_
    refine L_nil ?_
    refine W_if rfl (fun h24 => ?_) (fun h24 => ?_)
    · refine W_seq ?_
      refine W_region ?_
      refine L_run (.plain rfl) rfl rfl (r_move (v := .pointer _) rfl) ?_
      refine L_run (.plain rfl) rfl rfl (r_move (v := .int _ _) rfl) ?_
      refine L_run (.plain rfl) rfl rfl (r_nilCheck rfl) ?_
      refine L_run (.plain rfl) rfl rfl (r_fieldb Tryd.underlying69 rfl (show _ = some 1 from rfl) rfl rfl (show _ = 1 from rfl)) ?_
      refine L_set (.plain rfl) rfl (by (exact Bk.to (by assumption) (by (repeat (first | exact Sm.refl _ _ | (refine Sm.stepT (by assumption) (by intro hlt hsm; first | (intro he; have he2 : _ = _ := he; omega) | (intro he; have he2 : _ = _ := he; rw [he2] at hi; exact absurd hi (by assumption))) ?_)))))) (r_store (v := .int _ _) rfl rfl rfl rfl (by (exact Bk.to (by assumption) (by (repeat (first | exact Sm.refl _ _ | (refine Sm.stepT (by assumption) (by intro hlt hsm; first | (intro he; have he2 : _ = _ := he; omega) | (intro he; have he2 : _ = _ := he; rw [he2] at hi; exact absurd hi (by assumption))) ?_)))))) (by first | decide | (simp; done) | omega)) (fun w3 hb3 hs3 c3 => ?_)
      try simp only [List.setIfInBounds_toArray, List.set_cons_zero, List.set_cons_succ] at hb3
      refine L_nil ?_
      refine W_seq ?_
      refine W_region ?_
      refine L_run (.plain rfl) rfl rfl (r_assign (v := .bool _) rfl) ?_
      refine L_nil ?_
      refine W_ret ?_
      refine ret1 (v := .bool _) rfl rfl ?_
      first
      | (have he : e ≠ 0 := by assumption
         rw [nxt_bad he]
         exact ⟨x0, congrArg Value.bool (decide_eq_false (fun h => he h.1)).symm, ⟨by (exact Bk.to (by assumption) (by (repeat (first | exact Sm.refl _ _ | (refine Sm.stepT (by assumption) (by intro hlt hsm; first | (intro he; have he2 : _ = _ := he; omega) | (intro he; have he2 : _ = _ := he; rw [he2] at hi; exact absurd hi (by assumption))) ?_))))), hR.hb, by (exact Ow.to (by first | assumption | exact Ow.of (by assumption)) (fun i hi => by (repeat (first | exact Sm.refl _ _ | (refine Sm.stepT (by assumption) (by intro hlt hsm; first | (intro he; have he2 : _ = _ := he; omega) | (intro he; have he2 : _ = _ := he; rw [he2] at hi; exact absurd hi (by assumption))) ?_))))), by omega, hl⟩, by (exact Bk.to (by assumption) (by (repeat (first | exact Sm.refl _ _ | (refine Sm.stepT (by assumption) (by intro hlt hsm; first | (intro he; have he2 : _ = _ := he; omega) | (intro he; have he2 : _ = _ := he; rw [he2] at hi; exact absurd hi (by assumption))) ?_))))), by (repeat (first | exact Ch.refl _ | assumption | (refine Ch.fresh ?_ (by assumption) (by intro i hi he; exact Or.inl he)))), fun h => absurd h he⟩)
      | (obtain rfl : e = 0 := by omega
         have hz : (textR (l.drop a)).1 ≠ 0 := by assumption
         rw [nxt_err hz]
         exact ⟨x1, congrArg Value.bool (decide_eq_false (fun h => hz h.2)).symm, ⟨by (exact Bk.to (by assumption) (by (repeat (first | exact Sm.refl _ _ | (refine Sm.stepT (by assumption) (by intro hlt hsm; first | (intro he; have he2 : _ = _ := he; omega) | (intro he; have he2 : _ = _ := he; rw [he2] at hi; exact absurd hi (by assumption))) ?_))))), hR.hb, by (exact Ow.to (by first | assumption | exact Ow.of (by assumption)) (fun i hi => by (repeat (first | exact Sm.refl _ _ | (refine Sm.stepT (by assumption) (by intro hlt hsm; first | (intro he; have he2 : _ = _ := he; omega) | (intro he; have he2 : _ = _ := he; rw [he2] at hi; exact absurd hi (by assumption))) ?_))))), by omega, hl⟩, by (exact Bk.to (by assumption) (by (repeat (first | exact Sm.refl _ _ | (refine Sm.stepT (by assumption) (by intro hlt hsm; first | (intro he; have he2 : _ = _ := he; omega) | (intro he; have he2 : _ = _ := he; rw [he2] at hi; exact absurd hi (by assumption))) ?_))))), by (repeat (first | exact Ch.refl _ | assumption | (refine Ch.fresh ?_ (by assumption) (by intro i hi he; exact Or.inl he)))), fun _ h => absurd h hz⟩)
      | (obtain rfl : e = 0 := by omega
         have hz : (textR (l.drop a)).1 = 0 := by omega
         obtain ⟨hA, hX⟩ := hn1 hz
         subst hA
         rw [nxt_ok hz]
         exact ⟨x1, congrArg Value.bool (decide_eq_true ⟨rfl, hz⟩).symm, ⟨by (exact Bk.to (by assumption) (by (repeat (first | exact Sm.refl _ _ | (refine Sm.stepT (by assumption) (by intro hlt hsm; first | (intro he; have he2 : _ = _ := he; omega) | (intro he; have he2 : _ = _ := he; rw [he2] at hi; exact absurd hi (by assumption))) ?_))))), hR.hb, by (exact Ow.to (by first | assumption | exact Ow.of (by assumption)) (fun i hi => by (repeat (first | exact Sm.refl _ _ | (refine Sm.stepT (by assumption) (by intro hlt hsm; first | (intro he; have he2 : _ = _ := he; omega) | (intro he; have he2 : _ = _ := he; rw [he2] at hi; exact absurd hi (by assumption))) ?_))))), ha1, hl⟩, by (exact Bk.to (by assumption) (by (repeat (first | exact Sm.refl _ _ | (refine Sm.stepT (by assumption) (by intro hlt hsm; first | (intro he; have he2 : _ = _ := he; omega) | (intro he; have he2 : _ = _ := he; rw [he2] at hi; exact absurd hi (by assumption))) ?_))))), by (repeat (first | exact Ch.refl _ | assumption | (refine Ch.fresh ?_ (by assumption) (by intro i hi he; exact Or.inl he)))), fun _ _ => hX⟩)
    · refine W_skip ?_
      refine W_seq ?_
      refine W_region ?_
      refine L_run (.plain rfl) rfl rfl (r_assign (v := .bool _) rfl) ?_
      refine L_nil ?_
      refine W_ret ?_
      refine ret1 (v := .bool _) rfl rfl ?_
      first
      | (have he : e ≠ 0 := by assumption
         rw [nxt_bad he]
         exact ⟨x0, congrArg Value.bool (decide_eq_false (fun h => he h.1)).symm, ⟨by (exact Bk.to (by assumption) (by (repeat (first | exact Sm.refl _ _ | (refine Sm.stepT (by assumption) (by intro hlt hsm; first | (intro he; have he2 : _ = _ := he; omega) | (intro he; have he2 : _ = _ := he; rw [he2] at hi; exact absurd hi (by assumption))) ?_))))), hR.hb, by (exact Ow.to (by first | assumption | exact Ow.of (by assumption)) (fun i hi => by (repeat (first | exact Sm.refl _ _ | (refine Sm.stepT (by assumption) (by intro hlt hsm; first | (intro he; have he2 : _ = _ := he; omega) | (intro he; have he2 : _ = _ := he; rw [he2] at hi; exact absurd hi (by assumption))) ?_))))), by omega, hl⟩, by (exact Bk.to (by assumption) (by (repeat (first | exact Sm.refl _ _ | (refine Sm.stepT (by assumption) (by intro hlt hsm; first | (intro he; have he2 : _ = _ := he; omega) | (intro he; have he2 : _ = _ := he; rw [he2] at hi; exact absurd hi (by assumption))) ?_))))), by (repeat (first | exact Ch.refl _ | assumption | (refine Ch.fresh ?_ (by assumption) (by intro i hi he; exact Or.inl he)))), fun h => absurd h he⟩)
      | (obtain rfl : e = 0 := by omega
         have hz : (textR (l.drop a)).1 ≠ 0 := by assumption
         rw [nxt_err hz]
         exact ⟨x1, congrArg Value.bool (decide_eq_false (fun h => hz h.2)).symm, ⟨by (exact Bk.to (by assumption) (by (repeat (first | exact Sm.refl _ _ | (refine Sm.stepT (by assumption) (by intro hlt hsm; first | (intro he; have he2 : _ = _ := he; omega) | (intro he; have he2 : _ = _ := he; rw [he2] at hi; exact absurd hi (by assumption))) ?_))))), hR.hb, by (exact Ow.to (by first | assumption | exact Ow.of (by assumption)) (fun i hi => by (repeat (first | exact Sm.refl _ _ | (refine Sm.stepT (by assumption) (by intro hlt hsm; first | (intro he; have he2 : _ = _ := he; omega) | (intro he; have he2 : _ = _ := he; rw [he2] at hi; exact absurd hi (by assumption))) ?_))))), by omega, hl⟩, by (exact Bk.to (by assumption) (by (repeat (first | exact Sm.refl _ _ | (refine Sm.stepT (by assumption) (by intro hlt hsm; first | (intro he; have he2 : _ = _ := he; omega) | (intro he; have he2 : _ = _ := he; rw [he2] at hi; exact absurd hi (by assumption))) ?_))))), by (repeat (first | exact Ch.refl _ | assumption | (refine Ch.fresh ?_ (by assumption) (by intro i hi he; exact Or.inl he)))), fun _ h => absurd h hz⟩)
      | (obtain rfl : e = 0 := by omega
         have hz : (textR (l.drop a)).1 = 0 := by omega
         obtain ⟨hA, hX⟩ := hn1 hz
         subst hA
         rw [nxt_ok hz]
         exact ⟨x1, congrArg Value.bool (decide_eq_true ⟨rfl, hz⟩).symm, ⟨by (exact Bk.to (by assumption) (by (repeat (first | exact Sm.refl _ _ | (refine Sm.stepT (by assumption) (by intro hlt hsm; first | (intro he; have he2 : _ = _ := he; omega) | (intro he; have he2 : _ = _ := he; rw [he2] at hi; exact absurd hi (by assumption))) ?_))))), hR.hb, by (exact Ow.to (by first | assumption | exact Ow.of (by assumption)) (fun i hi => by (repeat (first | exact Sm.refl _ _ | (refine Sm.stepT (by assumption) (by intro hlt hsm; first | (intro he; have he2 : _ = _ := he; omega) | (intro he; have he2 : _ = _ := he; rw [he2] at hi; exact absurd hi (by assumption))) ?_))))), ha1, hl⟩, by (exact Bk.to (by assumption) (by (repeat (first | exact Sm.refl _ _ | (refine Sm.stepT (by assumption) (by intro hlt hsm; first | (intro he; have he2 : _ = _ := he; omega) | (intro he; have he2 : _ = _ := he; rw [he2] at hi; exact absurd hi (by assumption))) ?_))))), by (repeat (first | exact Ch.refl _ | assumption | (refine Ch.fresh ?_ (by assumption) (by intro i hi he; exact Or.inl he)))), fun _ _ => hX⟩)
theorem countR_big {most : Int} {m : List UInt8} (h : (numL 0 m).1 = 0 ∧ (most < 0 ∨ most < (numL 0 m).2.1 ∨ m.length - (numL 0 m).2.2 < (numL 0 m).2.1)) : countR most m = (12, 0, 0) := if_pos h
theorem countR_else {most : Int} {m : List UInt8} (h : ¬ ((numL 0 m).1 = 0 ∧ (most < 0 ∨ most < (numL 0 m).2.1 ∨ m.length - (numL 0 m).2.2 < (numL 0 m).2.1))) : countR most m = numL 0 m := if_neg h
end Go.Proofs.YtcbcelfgbelaoaaDoor

