/- The reader's do, once for each of its closures; walked. (Printed by tools/mkpackd.py.) -/
import Derived.Test.YtioonbfinnigpaaGreatDoorPackT
namespace Go.Proofs.YtioonbfinnigpaaGreatDoor
open Go Go.RowKit
set_option linter.unusedVariables false
set_option maxRecDepth 100000
set_option linter.unusedSimpArgs false
/-- Where a reader goes on, and its error, when it was asked for something. -/
def nxt (s : Nat × Int) (e : Int) (k : Nat) : Nat × Int := if s.2 ≠ 0 then s else if e ≠ 0 then (s.1, e) else (s.1 + k, 0)
def got {β : Type} (s : Nat × Int) (e : Int) (x d : β) : β := if s.2 = 0 ∧ e = 0 then x else d
theorem nxt_bad {a : Nat} {e : Int} (h : e ≠ 0) (e' : Int) (k : Nat) : nxt (a, e) e' k = (a, e) := if_pos h
theorem nxt_err {a : Nat} {e' : Int} (h : e' ≠ 0) (k : Nat) : nxt (a, 0) e' k = (a, e') := by rw [nxt, if_neg (by simp), if_pos h]
theorem nxt_ok {a : Nat} {e' : Int} (h : e' = 0) (k : Nat) : nxt (a, 0) e' k = (a + k, e') := by subst h; rfl
theorem got_bad {β : Type} {a : Nat} {e : Int} (h : e ≠ 0) (e' : Int) (x d : β) : got (a, e) e' x d = d := if_neg fun h' => h h'.1
theorem got_err {β : Type} {a : Nat} {e' : Int} (h : e' ≠ 0) (x d : β) : got (a, 0) e' x d = d := if_neg fun h' => h h'.2
theorem got_ok {β : Type} {a : Nat} {e' : Int} (h : e' = 0) (x d : β) : got (a, 0) e' x d = x := if_pos ⟨rfl, h⟩
theorem cnum_walk (base b p q : Nat) (v : Value) (l : List UInt8) (a : Nat) (e : Int) (x0 : Int) (w0 : World) (hR : RdAt base w0 b v l a e) (hp : Bk w0 p #[.pointer (some ⟨b, 0, none⟩)] 28) (hq : Bk w0 q #[.int .u64 x0] 23) (hb : base ≤ w0.heap.size) : Does Tryz.prog 33 #[.pointer (some ⟨p, 0, none⟩), .pointer (some ⟨q, 0, none⟩)] w0 (fun r w' => ∃ (a' : Nat) (x : Int), r = .int .i64 (numL 0 (l.drop a)).1 ∧ RdAt base w' b v l a' e ∧ Bk w' q #[.int .u64 x] 23 ∧ Ch (fun j => j = b ∨ j = q) w0 w' ∧ ((numL 0 (l.drop a)).1 = 0 → a' = a + (numL 0 (l.drop a)).2.2 ∧ x = (numL 0 (l.drop a)).2.1)) := by
  refine fn_of (n := 5) (args := [.pointer (some ⟨p, 0, none⟩), .pointer (some ⟨q, 0, none⟩)]) Tryz.func33 rfl rfl rfl ?_
  refine W_seq ?_
  refine W_region ?_
  refine L_r (r_ai rfl) ?_
  refine L_nil ?_
  refine W_seq ?_
  refine W_region ?_
  refine L_r (r_lb rfl rfl) ?_
  refine L_call (.plain rfl) rfl rfl (r_call Tryz.func34 rfl rfl rfl (by rfl)) (number_walk base b q v l a e x0 _ (hR.nw Ch.au) Bk.au (by omega)) ?_
  rintro v4 w1 ⟨a1, x1, rfl, hR1, hq1, c1, hn1⟩
  have hz1 := c1.size
  refine L_r (r_ai rfl) ?_
  refine L_nil ?_
  refine W_ret ?_
  refine ret1 (v := .int _ _) rfl rfl ?_
  exact ⟨a1, x1, rfl, hR1.nw Ch.au, Bk.au, Ch.au, hn1⟩
theorem dnum_walk (base b p q : Nat) (v : Value) (l : List UInt8) (a : Nat) (e : Int) (x0 : Int) (w0 : World) (hR : RdAt base w0 b v l a e) (hp : Bk w0 p #[.pointer (some ⟨b, 0, none⟩)] 28) (hq : Bk w0 q #[.int .u64 x0] 23) (hb : base ≤ w0.heap.size) : Does Tryz.prog 32 #[.pointer (some ⟨b, 0, none⟩), .func (.func 33) #[] #[.pointer (some ⟨p, 0, none⟩), .pointer (some ⟨q, 0, none⟩)]] w0 (fun r w' => ∃ x : Int, r = .bool (decide (e = 0 ∧ (numL 0 (l.drop a)).1 = 0)) ∧ RdAt base w' b v l (nxt (a, e) (numL 0 (l.drop a)).1 (numL 0 (l.drop a)).2.2).1 (nxt (a, e) (numL 0 (l.drop a)).1 (numL 0 (l.drop a)).2.2).2 ∧ Bk w' q #[.int .u64 x] 23 ∧ Ch (fun j => j = b ∨ j = q) w0 w' ∧ (e = 0 → (numL 0 (l.drop a)).1 = 0 → x = (numL 0 (l.drop a)).2.1)) := by
  have hbk := hR.bk
  have how := hR.ow
  have ha := hR.ha
  have hl := hR.hl
  have hnv := hR.nov
  have hne := Bk.ne hbk hq (by decide)
  have hqv := ow_nb hR.ow hq (by decide)
  have hlb := hbk.lt
  have hlq := hq.lt
  refine fn_of (n := 29) (args := [.pointer (some ⟨b, 0, none⟩), .func (.func 33) #[] #[.pointer (some ⟨p, 0, none⟩), .pointer (some ⟨q, 0, none⟩)]]) Tryz.func32 rfl rfl rfl ?_
  refine W_seq ?_
  refine W_region ?_
  refine L_r (r_ab rfl) ?_
  refine L_nil ?_
  refine W_seq ?_
  refine W_seq ?_
  refine W_region ?_
  refine L_r (r_mp rfl) ?_
  refine L_r (r_nilCheck rfl) ?_
  refine L_r (r_fieldb Tryz.underlying53 rfl (show _ = some 1 from rfl) rfl rfl (show _ = 2 from rfl)) ?_
  refine L_r (r_lb rfl rfl) ?_
  refine L_r (r_neq rfl rfl) ?_
  refine L_nil ?_
  refine W_if rfl (fun h10 => ?_) (fun h10 => ?_)
  · refine W_seq ?_
    refine W_region ?_
    refine L_r (r_ab rfl) ?_
    refine L_nil ?_
    refine W_ret ?_
    refine ret1 (v := .bool _) rfl rfl ?_
    first
    | (have he : e ≠ 0 := by assumption
       rw [nxt_bad he]
       exact ⟨x0, congrArg Value.bool (decide_eq_false (fun h => he h.1)).symm, ⟨Bk.au, hR.hb, Ow.au, by omega, hl⟩, Bk.au, Ch.au, fun h => absurd h he⟩)
    | (obtain rfl : e = 0 := by omega
       have hz : (numL 0 (l.drop a)).1 ≠ 0 := by assumption
       rw [nxt_err hz]
       exact ⟨x1, congrArg Value.bool (decide_eq_false (fun h => hz h.2)).symm, ⟨Bk.au, hR.hb, Ow.au, by omega, hl⟩, Bk.au, Ch.au, fun _ h => absurd h hz⟩)
    | (obtain rfl : e = 0 := by omega
       have hz : (numL 0 (l.drop a)).1 = 0 := by omega
       obtain ⟨hA, hX⟩ := hn1 hz
       subst hA
       rw [nxt_ok hz]
       exact ⟨x1, congrArg Value.bool (decide_eq_true ⟨rfl, hz⟩).symm, ⟨Bk.au, hR.hb, Ow.au, ha1, hl⟩, Bk.au, Ch.au, fun _ _ => hX⟩)
  · refine W_skip ?_
    refine W_seq ?_
    refine W_region ?_
    refine L_r (r_mp rfl) ?_
    refine L_r (r_nilCheck rfl) ?_
    refine L_r (r_fieldb Tryz.underlying53 rfl (show _ = some 1 from rfl) rfl rfl (show _ = 1 from rfl)) ?_
    refine L_r (r_lb rfl rfl) ?_
    refine L_r (r_ai rfl) ?_
    refine L_nil ?_
    refine W_seq ?_
    refine W_seq ?_
    refine W_region ?_
    refine L_r (r_mp rfl) ?_
    refine L_r (r_mv) ?_
    refine L_call (.plain rfl) rfl rfl (r_call Tryz.func33 rfl rfl rfl (by rfl)) (cnum_walk base b p q v l a e x0 _ (hR.nw Ch.au) Bk.au Bk.au (by omega)) ?_
    rintro v17 w1 ⟨a1, x1, rfl, hR1, hq1, c1, hn1⟩
    have hz1 := c1.size
    have hbk1 := hR1.bk
    have ha1 := hR1.ha
    have how1 := hR1.ow
    have hsl1 := hR1.ow.sl
    refine L_r (r_nilCheck rfl) ?_
    refine L_r (r_fieldb Tryz.underlying53 rfl (show _ = some 1 from rfl) rfl rfl (show _ = 2 from rfl)) ?_
    refine L_set (.plain rfl) rfl Bk.au (r_store (v := .int _ _) rfl rfl rfl rfl Bk.au (by first | decide | (simp; done) | omega)) (fun w2 hb2 hs2 c2 => ?_)
    try simp only [List.setIfInBounds_toArray, List.set_cons_zero, List.set_cons_succ] at hb2
    refine L_nil ?_
    refine W_seq ?_
    refine W_region ?_
    refine L_r (r_mp rfl) ?_
    refine L_r (r_nilCheck rfl) ?_
    refine L_r (r_fieldb Tryz.underlying53 rfl (show _ = some 1 from rfl) rfl rfl (show _ = 2 from rfl)) ?_
    refine L_r (r_lb rfl rfl) ?_
    refine L_r (r_neq rfl rfl) ?_
    refine L_nil ?_
    refine W_if rfl (fun h24 => ?_) (fun h24 => ?_)
    · refine W_seq ?_
      refine W_region ?_
      refine L_r (r_mp rfl) ?_
      refine L_r (r_mi rfl) ?_
      refine L_r (r_nilCheck rfl) ?_
      refine L_r (r_fieldb Tryz.underlying53 rfl (show _ = some 1 from rfl) rfl rfl (show _ = 1 from rfl)) ?_
      refine L_set (.plain rfl) rfl Bk.au (r_store (v := .int _ _) rfl rfl rfl rfl Bk.au (by first | decide | (simp; done) | omega)) (fun w3 hb3 hs3 c3 => ?_)
      try simp only [List.setIfInBounds_toArray, List.set_cons_zero, List.set_cons_succ] at hb3
      refine L_nil ?_
      refine W_seq ?_
      refine W_region ?_
      refine L_r (r_ab rfl) ?_
      refine L_nil ?_
      refine W_ret ?_
      refine ret1 (v := .bool _) rfl rfl ?_
      first
      | (have he : e ≠ 0 := by assumption
         rw [nxt_bad he]
         exact ⟨x0, congrArg Value.bool (decide_eq_false (fun h => he h.1)).symm, ⟨Bk.au, hR.hb, Ow.au, by omega, hl⟩, Bk.au, Ch.au, fun h => absurd h he⟩)
      | (obtain rfl : e = 0 := by omega
         have hz : (numL 0 (l.drop a)).1 ≠ 0 := by assumption
         rw [nxt_err hz]
         exact ⟨x1, congrArg Value.bool (decide_eq_false (fun h => hz h.2)).symm, ⟨Bk.au, hR.hb, Ow.au, by omega, hl⟩, Bk.au, Ch.au, fun _ h => absurd h hz⟩)
      | (obtain rfl : e = 0 := by omega
         have hz : (numL 0 (l.drop a)).1 = 0 := by omega
         obtain ⟨hA, hX⟩ := hn1 hz
         subst hA
         rw [nxt_ok hz]
         exact ⟨x1, congrArg Value.bool (decide_eq_true ⟨rfl, hz⟩).symm, ⟨Bk.au, hR.hb, Ow.au, ha1, hl⟩, Bk.au, Ch.au, fun _ _ => hX⟩)
    · refine W_skip ?_
      refine W_seq ?_
      refine W_region ?_
      refine L_r (r_ab rfl) ?_
      refine L_nil ?_
      refine W_ret ?_
      refine ret1 (v := .bool _) rfl rfl ?_
      first
      | (have he : e ≠ 0 := by assumption
         rw [nxt_bad he]
         exact ⟨x0, congrArg Value.bool (decide_eq_false (fun h => he h.1)).symm, ⟨Bk.au, hR.hb, Ow.au, by omega, hl⟩, Bk.au, Ch.au, fun h => absurd h he⟩)
      | (obtain rfl : e = 0 := by omega
         have hz : (numL 0 (l.drop a)).1 ≠ 0 := by assumption
         rw [nxt_err hz]
         exact ⟨x1, congrArg Value.bool (decide_eq_false (fun h => hz h.2)).symm, ⟨Bk.au, hR.hb, Ow.au, by omega, hl⟩, Bk.au, Ch.au, fun _ h => absurd h hz⟩)
      | (obtain rfl : e = 0 := by omega
         have hz : (numL 0 (l.drop a)).1 = 0 := by omega
         obtain ⟨hA, hX⟩ := hn1 hz
         subst hA
         rw [nxt_ok hz]
         exact ⟨x1, congrArg Value.bool (decide_eq_true ⟨rfl, hz⟩).symm, ⟨Bk.au, hR.hb, Ow.au, ha1, hl⟩, Bk.au, Ch.au, fun _ _ => hX⟩)
theorem ctext_walk (base b p q : Nat) (v : Value) (l : List UInt8) (a : Nat) (e : Int) (x0 : List UInt8) (w0 : World) (hR : RdAt base w0 b v l a e) (hp : Bk w0 p #[.pointer (some ⟨b, 0, none⟩)] 28) (hq : Bk w0 q #[.string (sb x0)] 9) (hT : Tabs base w0) (hbq : base ≤ q) (hb : base ≤ w0.heap.size) : Does Tryz.prog 58 #[.pointer (some ⟨p, 0, none⟩), .pointer (some ⟨q, 0, none⟩)] w0 (fun r w' => ∃ (a' : Nat) (x : List UInt8), r = .int .i64 (textR (l.drop a)).1 ∧ RdAt base w' b v l a' e ∧ Bk w' q #[.string (sb x)] 9 ∧ Ch (fun j => j = b ∨ j = q) w0 w' ∧ ((textR (l.drop a)).1 = 0 → a' = a + (textR (l.drop a)).2.2 ∧ x = (textR (l.drop a)).2.1)) := by
  refine fn_of (n := 5) (args := [.pointer (some ⟨p, 0, none⟩), .pointer (some ⟨q, 0, none⟩)]) Tryz.func58 rfl rfl rfl ?_
  refine W_seq ?_
  refine W_region ?_
  refine L_r (r_ai rfl) ?_
  refine L_nil ?_
  refine W_seq ?_
  refine W_region ?_
  refine L_r (r_lb rfl rfl) ?_
  refine L_call (.plain rfl) rfl rfl (r_call Tryz.func59 rfl rfl rfl (by rfl)) (text_walk base b q v l a e x0 _ (hR.nw Ch.au) Bk.au (hT.nw Ch.au hb) (by omega) hbq) ?_
  rintro v4 w1 ⟨a1, x1, rfl, hR1, hq1, c1, hn1⟩
  have hz1 := c1.size
  refine L_r (r_ai rfl) ?_
  refine L_nil ?_
  refine W_ret ?_
  refine ret1 (v := .int _ _) rfl rfl ?_
  exact ⟨a1, x1, rfl, hR1.nw Ch.au, Bk.au, Ch.au, hn1⟩
theorem dtext_walk (base b p q : Nat) (v : Value) (l : List UInt8) (a : Nat) (e : Int) (x0 : List UInt8) (w0 : World) (hR : RdAt base w0 b v l a e) (hp : Bk w0 p #[.pointer (some ⟨b, 0, none⟩)] 28) (hq : Bk w0 q #[.string (sb x0)] 9) (hT : Tabs base w0) (hbq : base ≤ q) (hb : base ≤ w0.heap.size) : Does Tryz.prog 32 #[.pointer (some ⟨b, 0, none⟩), .func (.func 58) #[] #[.pointer (some ⟨p, 0, none⟩), .pointer (some ⟨q, 0, none⟩)]] w0 (fun r w' => ∃ x : List UInt8, r = .bool (decide (e = 0 ∧ (textR (l.drop a)).1 = 0)) ∧ RdAt base w' b v l (nxt (a, e) (textR (l.drop a)).1 (textR (l.drop a)).2.2).1 (nxt (a, e) (textR (l.drop a)).1 (textR (l.drop a)).2.2).2 ∧ Bk w' q #[.string (sb x)] 9 ∧ Ch (fun j => j = b ∨ j = q) w0 w' ∧ (e = 0 → (textR (l.drop a)).1 = 0 → x = (textR (l.drop a)).2.1)) := by
  have hbk := hR.bk
  have how := hR.ow
  have ha := hR.ha
  have hl := hR.hl
  have hnv := hR.nov
  have hne := Bk.ne hbk hq (by decide)
  have hqv := ow_nb hR.ow hq (by decide)
  have hlb := hbk.lt
  have hlq := hq.lt
  refine fn_of (n := 29) (args := [.pointer (some ⟨b, 0, none⟩), .func (.func 58) #[] #[.pointer (some ⟨p, 0, none⟩), .pointer (some ⟨q, 0, none⟩)]]) Tryz.func32 rfl rfl rfl ?_
  refine W_seq ?_
  refine W_region ?_
  refine L_r (r_ab rfl) ?_
  refine L_nil ?_
  refine W_seq ?_
  refine W_seq ?_
  refine W_region ?_
  refine L_r (r_mp rfl) ?_
  refine L_r (r_nilCheck rfl) ?_
  refine L_r (r_fieldb Tryz.underlying53 rfl (show _ = some 1 from rfl) rfl rfl (show _ = 2 from rfl)) ?_
  refine L_r (r_lb rfl rfl) ?_
  refine L_r (r_neq rfl rfl) ?_
  refine L_nil ?_
  refine W_if rfl (fun h10 => ?_) (fun h10 => ?_)
  · refine W_seq ?_
    refine W_region ?_
    refine L_r (r_ab rfl) ?_
    refine L_nil ?_
    refine W_ret ?_
    refine ret1 (v := .bool _) rfl rfl ?_
    first
    | (have he : e ≠ 0 := by assumption
       rw [nxt_bad he]
       exact ⟨x0, congrArg Value.bool (decide_eq_false (fun h => he h.1)).symm, ⟨Bk.au, hR.hb, Ow.au, by omega, hl⟩, Bk.au, Ch.au, fun h => absurd h he⟩)
    | (obtain rfl : e = 0 := by omega
       have hz : (textR (l.drop a)).1 ≠ 0 := by assumption
       rw [nxt_err hz]
       exact ⟨x1, congrArg Value.bool (decide_eq_false (fun h => hz h.2)).symm, ⟨Bk.au, hR.hb, Ow.au, by omega, hl⟩, Bk.au, Ch.au, fun _ h => absurd h hz⟩)
    | (obtain rfl : e = 0 := by omega
       have hz : (textR (l.drop a)).1 = 0 := by omega
       obtain ⟨hA, hX⟩ := hn1 hz
       subst hA
       rw [nxt_ok hz]
       exact ⟨x1, congrArg Value.bool (decide_eq_true ⟨rfl, hz⟩).symm, ⟨Bk.au, hR.hb, Ow.au, ha1, hl⟩, Bk.au, Ch.au, fun _ _ => hX⟩)
  · refine W_skip ?_
    refine W_seq ?_
    refine W_region ?_
    refine L_r (r_mp rfl) ?_
    refine L_r (r_nilCheck rfl) ?_
    refine L_r (r_fieldb Tryz.underlying53 rfl (show _ = some 1 from rfl) rfl rfl (show _ = 1 from rfl)) ?_
    refine L_r (r_lb rfl rfl) ?_
    refine L_r (r_ai rfl) ?_
    refine L_nil ?_
    refine W_seq ?_
    refine W_seq ?_
    refine W_region ?_
    refine L_r (r_mp rfl) ?_
    refine L_r (r_mv) ?_
    refine L_call (.plain rfl) rfl rfl (r_call Tryz.func58 rfl rfl rfl (by rfl)) (ctext_walk base b p q v l a e x0 _ (hR.nw Ch.au) Bk.au Bk.au (hT.nw Ch.au hb) hbq (by omega)) ?_
    rintro v17 w1 ⟨a1, x1, rfl, hR1, hq1, c1, hn1⟩
    have hz1 := c1.size
    have hbk1 := hR1.bk
    have ha1 := hR1.ha
    have how1 := hR1.ow
    have hsl1 := hR1.ow.sl
    refine L_r (r_nilCheck rfl) ?_
    refine L_r (r_fieldb Tryz.underlying53 rfl (show _ = some 1 from rfl) rfl rfl (show _ = 2 from rfl)) ?_
    refine L_set (.plain rfl) rfl Bk.au (r_store (v := .int _ _) rfl rfl rfl rfl Bk.au (by first | decide | (simp; done) | omega)) (fun w2 hb2 hs2 c2 => ?_)
    try simp only [List.setIfInBounds_toArray, List.set_cons_zero, List.set_cons_succ] at hb2
    refine L_nil ?_
    refine W_seq ?_
    refine W_region ?_
    refine L_r (r_mp rfl) ?_
    refine L_r (r_nilCheck rfl) ?_
    refine L_r (r_fieldb Tryz.underlying53 rfl (show _ = some 1 from rfl) rfl rfl (show _ = 2 from rfl)) ?_
    refine L_r (r_lb rfl rfl) ?_
    refine L_r (r_neq rfl rfl) ?_
    refine L_nil ?_
    refine W_if rfl (fun h24 => ?_) (fun h24 => ?_)
    · refine W_seq ?_
      refine W_region ?_
      refine L_r (r_mp rfl) ?_
      refine L_r (r_mi rfl) ?_
      refine L_r (r_nilCheck rfl) ?_
      refine L_r (r_fieldb Tryz.underlying53 rfl (show _ = some 1 from rfl) rfl rfl (show _ = 1 from rfl)) ?_
      refine L_set (.plain rfl) rfl Bk.au (r_store (v := .int _ _) rfl rfl rfl rfl Bk.au (by first | decide | (simp; done) | omega)) (fun w3 hb3 hs3 c3 => ?_)
      try simp only [List.setIfInBounds_toArray, List.set_cons_zero, List.set_cons_succ] at hb3
      refine L_nil ?_
      refine W_seq ?_
      refine W_region ?_
      refine L_r (r_ab rfl) ?_
      refine L_nil ?_
      refine W_ret ?_
      refine ret1 (v := .bool _) rfl rfl ?_
      first
      | (have he : e ≠ 0 := by assumption
         rw [nxt_bad he]
         exact ⟨x0, congrArg Value.bool (decide_eq_false (fun h => he h.1)).symm, ⟨Bk.au, hR.hb, Ow.au, by omega, hl⟩, Bk.au, Ch.au, fun h => absurd h he⟩)
      | (obtain rfl : e = 0 := by omega
         have hz : (textR (l.drop a)).1 ≠ 0 := by assumption
         rw [nxt_err hz]
         exact ⟨x1, congrArg Value.bool (decide_eq_false (fun h => hz h.2)).symm, ⟨Bk.au, hR.hb, Ow.au, by omega, hl⟩, Bk.au, Ch.au, fun _ h => absurd h hz⟩)
      | (obtain rfl : e = 0 := by omega
         have hz : (textR (l.drop a)).1 = 0 := by omega
         obtain ⟨hA, hX⟩ := hn1 hz
         subst hA
         rw [nxt_ok hz]
         exact ⟨x1, congrArg Value.bool (decide_eq_true ⟨rfl, hz⟩).symm, ⟨Bk.au, hR.hb, Ow.au, ha1, hl⟩, Bk.au, Ch.au, fun _ _ => hX⟩)
    · refine W_skip ?_
      refine W_seq ?_
      refine W_region ?_
      refine L_r (r_ab rfl) ?_
      refine L_nil ?_
      refine W_ret ?_
      refine ret1 (v := .bool _) rfl rfl ?_
      first
      | (have he : e ≠ 0 := by assumption
         rw [nxt_bad he]
         exact ⟨x0, congrArg Value.bool (decide_eq_false (fun h => he h.1)).symm, ⟨Bk.au, hR.hb, Ow.au, by omega, hl⟩, Bk.au, Ch.au, fun h => absurd h he⟩)
      | (obtain rfl : e = 0 := by omega
         have hz : (textR (l.drop a)).1 ≠ 0 := by assumption
         rw [nxt_err hz]
         exact ⟨x1, congrArg Value.bool (decide_eq_false (fun h => hz h.2)).symm, ⟨Bk.au, hR.hb, Ow.au, by omega, hl⟩, Bk.au, Ch.au, fun _ h => absurd h hz⟩)
      | (obtain rfl : e = 0 := by omega
         have hz : (textR (l.drop a)).1 = 0 := by omega
         obtain ⟨hA, hX⟩ := hn1 hz
         subst hA
         rw [nxt_ok hz]
         exact ⟨x1, congrArg Value.bool (decide_eq_true ⟨rfl, hz⟩).symm, ⟨Bk.au, hR.hb, Ow.au, ha1, hl⟩, Bk.au, Ch.au, fun _ _ => hX⟩)
theorem countR_big {most : Int} {m : List UInt8} (h : (numL 0 m).1 = 0 ∧ (most < 0 ∨ most < (numL 0 m).2.1 ∨ m.length - (numL 0 m).2.2 < (numL 0 m).2.1)) : countR most m = (12, 0, 0) := if_pos h
theorem countR_else {most : Int} {m : List UInt8} (h : ¬ ((numL 0 m).1 = 0 ∧ (most < 0 ∨ most < (numL 0 m).2.1 ∨ m.length - (numL 0 m).2.2 < (numL 0 m).2.1))) : countR most m = numL 0 m := if_neg h
theorem ccount_walk (base b p q m : Nat) (v : Value) (l : List UInt8) (a : Nat) (e : Int) (x0 most : Int) (w0 : World) (hR : RdAt base w0 b v l a e) (hp : Bk w0 p #[.pointer (some ⟨b, 0, none⟩)] 28) (hq : Bk w0 q #[.int .u64 x0] 23) (hm : Bk w0 m #[.int .i64 most] 3) (hmo : most ≤ 9223372036854775807) (hb : base ≤ w0.heap.size) : Does Tryz.prog 56 #[.pointer (some ⟨p, 0, none⟩), .pointer (some ⟨q, 0, none⟩), .pointer (some ⟨m, 0, none⟩)] w0 (fun r w' => ∃ (a' : Nat) (x : Int), r = .int .i64 (countR most (l.drop a)).1 ∧ RdAt base w' b v l a' e ∧ Bk w' q #[.int .u64 x] 23 ∧ Ch (fun j => j = b ∨ j = q) w0 w' ∧ ((countR most (l.drop a)).1 = 0 → a' = a + (countR most (l.drop a)).2.2 ∧ x = (countR most (l.drop a)).2.1)) := by
  have hpb := Bk.ne hp hR.bk (by decide)
  have hpq := Bk.ne hp hq (by decide)
  have hmb := Bk.ne hm hR.bk (by decide)
  have hmq := Bk.ne hm hq (by decide)
  have hlb := hR.bk.lt
  have hlq := hq.lt
  refine fn_of (n := 27) (args := [.pointer (some ⟨p, 0, none⟩), .pointer (some ⟨q, 0, none⟩), .pointer (some ⟨m, 0, none⟩)]) Tryz.func56 rfl rfl rfl ?_
  refine W_seq ?_
  refine W_region ?_
  refine L_r (r_ai rfl) ?_
  refine L_nil ?_
  refine W_seq ?_
  refine W_region ?_
  refine L_r (r_lb rfl rfl) ?_
  refine L_call (.plain rfl) rfl rfl (r_call Tryz.func34 rfl rfl rfl (by rfl)) (number_walk base b q v l a e x0 _ (hR.nw Ch.au) Bk.au (by omega)) ?_
  rintro v6 w1 ⟨a1, x1, rfl, hR1, hq1, c1, hn1⟩
  have hz1 := c1.size
  have ha1 := hR1.ha
  have hl1 := hR1.hl
  refine L_r (r_ai rfl) ?_
  refine L_nil ?_
  refine W_seq ?_
  refine W_seq ?_
  refine W_draw (fun W => Bk W q #[.int .u64 x1] 23 ∧ Bk W m #[.int .i64 most] 3 ∧ Bk W p #[.pointer (some ⟨b, 0, none⟩)] 28 ∧ RdAt base W b v l a1 e) 19 (m := 19) (by kernel_rfl) rfl (fun w2 c2 hs2 => ?_)
  refine held (by exact ⟨Bk.au, Bk.au, Bk.au, hR1.nw Ch.au⟩) (fun hS => ?_)
  refine D_t 0 rfl (fun W hW => r_mi rfl) ?_
  refine D_t 1 rfl (fun W hW => r_eql rfl rfl) ?_
  refine D_t 2 rfl (fun W hW => r_mb rfl) ?_
  refine D_case (d := 9) rfl (fun h9 => ?_) (fun h9 => ?_)
  · refine D_g 3 rfl (fun W hW => r_loadb rfl rfl (by first | exact hW.1 | exact hW.2.1 | exact hW.2.2.1) (by first | assumption | (conv => lhs; simp only [List.getElem?_toArray, List.getElem?_cons_succ, List.getElem?_cons_zero]))) ?_
    refine D_g 4 rfl (fun W hW => r_lss rfl rfl) ?_
    refine D_g 5 rfl (fun W hW => r_mb rfl) ?_
    refine D_case (d := 12) rfl (fun h12 => ?_) (fun h12 => ?_)
    · refine D_ps 6 rfl ?_
      refine D_ps 7 rfl ?_
      refine D_ps 8 rfl ?_
      refine D_ps 9 rfl ?_
      refine D_g 10 rfl (fun W hW => r_pt rfl rfl) ?_
      refine D_g 11 rfl (fun W hW => r_mb rfl) ?_
      refine D_ps 12 rfl ?_
      refine D_ps 13 rfl ?_
      refine D_ps 14 rfl ?_
      refine D_ps 15 rfl ?_
      refine D_ps 16 rfl ?_
      refine D_g 17 rfl (fun W hW => r_pt rfl rfl) ?_
      refine D_t 18 rfl (fun W hW => r_pt rfl rfl) ?_
      refine D_done (by kernel_rfl) ?_
      refine W_true rfl ?_
      refine W_seq ?_
      refine W_region ?_
      refine L_r (r_ai rfl) ?_
      refine L_nil ?_
      refine W_ret ?_
      refine ret1 (v := .int _ _) rfl rfl ?_
      first
      | (have hz : ¬ (numL 0 (l.drop a)).1 = 0 := by omega
         rw [countR_else (fun h => hz h.1)]
         exact ⟨a1, x1, rfl, hR1.nw Ch.au, Bk.au, Ch.au, hn1⟩)
      | (have hz : (numL 0 (l.drop a)).1 = 0 := by omega
         obtain ⟨hA, hX⟩ := hn1 hz
         have hc : (numL 0 (l.drop a)).1 = 0 ∧ (most < 0 ∨ most < (numL 0 (l.drop a)).2.1 ∨ (l.drop a).length - (numL 0 (l.drop a)).2.2 < (numL 0 (l.drop a)).2.1) := ⟨hz, by rw [List.length_drop]; omega⟩
         rw [countR_big hc]
         exact ⟨a1, x1, rfl, hR1.nw Ch.au, Bk.au, Ch.au, fun h => absurd h (by decide)⟩)
      | (have hz : (numL 0 (l.drop a)).1 = 0 := by omega
         obtain ⟨hA, hX⟩ := hn1 hz
         have hc : ¬ ((numL 0 (l.drop a)).1 = 0 ∧ (most < 0 ∨ most < (numL 0 (l.drop a)).2.1 ∨ (l.drop a).length - (numL 0 (l.drop a)).2.2 < (numL 0 (l.drop a)).2.1)) := by rw [List.length_drop]; omega
         rw [countR_else hc]
         exact ⟨a1, x1, rfl, hR1.nw Ch.au, Bk.au, Ch.au, hn1⟩)
    · refine D_g 6 rfl (fun W hW => r_loadb rfl rfl (by first | exact hW.1 | exact hW.2.1 | exact hW.2.2.1) (by first | assumption | (conv => lhs; simp only [List.getElem?_toArray, List.getElem?_cons_succ, List.getElem?_cons_zero]))) ?_
      refine D_g 7 rfl (fun W hW => r_loadb rfl rfl (by first | exact hW.1 | exact hW.2.1 | exact hW.2.2.1) (by first | assumption | (conv => lhs; simp only [List.getElem?_toArray, List.getElem?_cons_succ, List.getElem?_cons_zero]))) ?_
      refine D_g 8 rfl (fun W hW => r_conv Tryz.underlying3 Tryz.underlying23 rfl (by first | exact wr_u64 (by omega) | rfl)) ?_
      refine D_g 9 rfl (fun W hW => r_gtr rfl rfl) ?_
      refine D_g 10 rfl (fun W hW => r_pf rfl rfl) ?_
      refine D_g 11 rfl (fun W hW => r_mb rfl) ?_
      refine D_case (d := 18) rfl (fun h18 => ?_) (fun h18 => ?_)
      · refine D_ps 12 rfl ?_
        refine D_ps 13 rfl ?_
        refine D_ps 14 rfl ?_
        refine D_ps 15 rfl ?_
        refine D_ps 16 rfl ?_
        refine D_g 17 rfl (fun W hW => r_pt rfl rfl) ?_
        refine D_t 18 rfl (fun W hW => r_pt rfl rfl) ?_
        refine D_done (by kernel_rfl) ?_
        refine W_true rfl ?_
        refine W_seq ?_
        refine W_region ?_
        refine L_r (r_ai rfl) ?_
        refine L_nil ?_
        refine W_ret ?_
        refine ret1 (v := .int _ _) rfl rfl ?_
        first
        | (have hz : ¬ (numL 0 (l.drop a)).1 = 0 := by omega
           rw [countR_else (fun h => hz h.1)]
           exact ⟨a1, x1, rfl, hR1.nw Ch.au, Bk.au, Ch.au, hn1⟩)
        | (have hz : (numL 0 (l.drop a)).1 = 0 := by omega
           obtain ⟨hA, hX⟩ := hn1 hz
           have hc : (numL 0 (l.drop a)).1 = 0 ∧ (most < 0 ∨ most < (numL 0 (l.drop a)).2.1 ∨ (l.drop a).length - (numL 0 (l.drop a)).2.2 < (numL 0 (l.drop a)).2.1) := ⟨hz, by rw [List.length_drop]; omega⟩
           rw [countR_big hc]
           exact ⟨a1, x1, rfl, hR1.nw Ch.au, Bk.au, Ch.au, fun h => absurd h (by decide)⟩)
        | (have hz : (numL 0 (l.drop a)).1 = 0 := by omega
           obtain ⟨hA, hX⟩ := hn1 hz
           have hc : ¬ ((numL 0 (l.drop a)).1 = 0 ∧ (most < 0 ∨ most < (numL 0 (l.drop a)).2.1 ∨ (l.drop a).length - (numL 0 (l.drop a)).2.2 < (numL 0 (l.drop a)).2.1)) := by rw [List.length_drop]; omega
           rw [countR_else hc]
           exact ⟨a1, x1, rfl, hR1.nw Ch.au, Bk.au, Ch.au, hn1⟩)
      · refine D_g 12 rfl (fun W hW => r_loadb rfl rfl (by first | exact hW.1 | exact hW.2.1 | exact hW.2.2.1) (by first | assumption | (conv => lhs; simp only [List.getElem?_toArray, List.getElem?_cons_succ, List.getElem?_cons_zero]))) ?_
        refine D_g 13 rfl (fun W hW => r_loadb rfl rfl (by first | exact hW.1 | exact hW.2.1 | exact hW.2.2.1) (by first | assumption | (conv => lhs; simp only [List.getElem?_toArray, List.getElem?_cons_succ, List.getElem?_cons_zero]))) ?_
        refine D_ev 14 (by kernel_rfl) rfl ?_
        refine L_call (.yes 11 false rfl rfl) rfl rfl (r_call Tryz.func35 rfl rfl rfl (by rfl)) (left_walk base b v l a1 e _ (hR1.nw Ch.au)) ?_
        rintro v21 w3 ⟨rfl, c3⟩
        have hz3 := c3.size
        refine L_nil ?_
        refine heldK (by exact ⟨Bk.au, Bk.au, Bk.au, hR1.nw Ch.au⟩) (fun hS => ?_)
        refine D_g 15 rfl (fun W hW => r_conv Tryz.underlying3 Tryz.underlying23 rfl (by first | exact wr_u64 (by omega) | rfl)) ?_
        refine D_g 16 rfl (fun W hW => r_gtr rfl rfl) ?_
        refine D_g 17 rfl (fun W hW => r_pf rfl rfl) ?_
        refine D_t 18 rfl (fun W hW => r_pt rfl rfl) ?_
        refine D_done (by kernel_rfl) ?_
        refine W_if rfl (fun h25 => ?_) (fun h25 => ?_)
        · refine W_seq ?_
          refine W_region ?_
          refine L_r (r_ai rfl) ?_
          refine L_nil ?_
          refine W_ret ?_
          refine ret1 (v := .int _ _) rfl rfl ?_
          first
          | (have hz : ¬ (numL 0 (l.drop a)).1 = 0 := by omega
             rw [countR_else (fun h => hz h.1)]
             exact ⟨a1, x1, rfl, hR1.nw Ch.au, Bk.au, Ch.au, hn1⟩)
          | (have hz : (numL 0 (l.drop a)).1 = 0 := by omega
             obtain ⟨hA, hX⟩ := hn1 hz
             have hc : (numL 0 (l.drop a)).1 = 0 ∧ (most < 0 ∨ most < (numL 0 (l.drop a)).2.1 ∨ (l.drop a).length - (numL 0 (l.drop a)).2.2 < (numL 0 (l.drop a)).2.1) := ⟨hz, by rw [List.length_drop]; omega⟩
             rw [countR_big hc]
             exact ⟨a1, x1, rfl, hR1.nw Ch.au, Bk.au, Ch.au, fun h => absurd h (by decide)⟩)
          | (have hz : (numL 0 (l.drop a)).1 = 0 := by omega
             obtain ⟨hA, hX⟩ := hn1 hz
             have hc : ¬ ((numL 0 (l.drop a)).1 = 0 ∧ (most < 0 ∨ most < (numL 0 (l.drop a)).2.1 ∨ (l.drop a).length - (numL 0 (l.drop a)).2.2 < (numL 0 (l.drop a)).2.1)) := by rw [List.length_drop]; omega
             rw [countR_else hc]
             exact ⟨a1, x1, rfl, hR1.nw Ch.au, Bk.au, Ch.au, hn1⟩)
        · refine W_skip ?_
          refine W_seq ?_
          refine W_region ?_
          refine L_r (r_mi rfl) ?_
          refine L_r (r_ai rfl) ?_
          refine L_nil ?_
          refine W_ret ?_
          refine ret1 (v := .int _ _) rfl rfl ?_
          first
          | (have hz : ¬ (numL 0 (l.drop a)).1 = 0 := by omega
             rw [countR_else (fun h => hz h.1)]
             exact ⟨a1, x1, rfl, hR1.nw Ch.au, Bk.au, Ch.au, hn1⟩)
          | (have hz : (numL 0 (l.drop a)).1 = 0 := by omega
             obtain ⟨hA, hX⟩ := hn1 hz
             have hc : (numL 0 (l.drop a)).1 = 0 ∧ (most < 0 ∨ most < (numL 0 (l.drop a)).2.1 ∨ (l.drop a).length - (numL 0 (l.drop a)).2.2 < (numL 0 (l.drop a)).2.1) := ⟨hz, by rw [List.length_drop]; omega⟩
             rw [countR_big hc]
             exact ⟨a1, x1, rfl, hR1.nw Ch.au, Bk.au, Ch.au, fun h => absurd h (by decide)⟩)
          | (have hz : (numL 0 (l.drop a)).1 = 0 := by omega
             obtain ⟨hA, hX⟩ := hn1 hz
             have hc : ¬ ((numL 0 (l.drop a)).1 = 0 ∧ (most < 0 ∨ most < (numL 0 (l.drop a)).2.1 ∨ (l.drop a).length - (numL 0 (l.drop a)).2.2 < (numL 0 (l.drop a)).2.1)) := by rw [List.length_drop]; omega
             rw [countR_else hc]
             exact ⟨a1, x1, rfl, hR1.nw Ch.au, Bk.au, Ch.au, hn1⟩)
  · refine D_ps 3 rfl ?_
    refine D_ps 4 rfl ?_
    refine D_ps 5 rfl ?_
    refine D_pu 6 rfl ?_
    refine D_pu 7 rfl ?_
    refine D_pu 8 rfl ?_
    refine D_pu 9 rfl ?_
    refine D_ps 10 rfl ?_
    refine D_ps 11 rfl ?_
    refine D_pu 12 rfl ?_
    refine D_pu 13 rfl ?_
    refine D_pu 14 rfl ?_
    refine D_pu 15 rfl ?_
    refine D_pu 16 rfl ?_
    refine D_ps 17 rfl ?_
    refine D_t 18 rfl (fun W hW => r_pf rfl rfl) ?_
    refine D_done (by kernel_rfl) ?_
    refine W_false rfl ?_
    refine W_skip ?_
    refine W_seq ?_
    refine W_region ?_
    refine L_r (r_mi rfl) ?_
    refine L_r (r_ai rfl) ?_
    refine L_nil ?_
    refine W_ret ?_
    refine ret1 (v := .int _ _) rfl rfl ?_
    first
    | (have hz : ¬ (numL 0 (l.drop a)).1 = 0 := by omega
       rw [countR_else (fun h => hz h.1)]
       exact ⟨a1, x1, rfl, hR1.nw Ch.au, Bk.au, Ch.au, hn1⟩)
    | (have hz : (numL 0 (l.drop a)).1 = 0 := by omega
       obtain ⟨hA, hX⟩ := hn1 hz
       have hc : (numL 0 (l.drop a)).1 = 0 ∧ (most < 0 ∨ most < (numL 0 (l.drop a)).2.1 ∨ (l.drop a).length - (numL 0 (l.drop a)).2.2 < (numL 0 (l.drop a)).2.1) := ⟨hz, by rw [List.length_drop]; omega⟩
       rw [countR_big hc]
       exact ⟨a1, x1, rfl, hR1.nw Ch.au, Bk.au, Ch.au, fun h => absurd h (by decide)⟩)
    | (have hz : (numL 0 (l.drop a)).1 = 0 := by omega
       obtain ⟨hA, hX⟩ := hn1 hz
       have hc : ¬ ((numL 0 (l.drop a)).1 = 0 ∧ (most < 0 ∨ most < (numL 0 (l.drop a)).2.1 ∨ (l.drop a).length - (numL 0 (l.drop a)).2.2 < (numL 0 (l.drop a)).2.1)) := by rw [List.length_drop]; omega
       rw [countR_else hc]
       exact ⟨a1, x1, rfl, hR1.nw Ch.au, Bk.au, Ch.au, hn1⟩)
theorem dcount_walk (base b p q m : Nat) (v : Value) (l : List UInt8) (a : Nat) (e : Int) (x0 : Int) (most : Int) (w0 : World) (hR : RdAt base w0 b v l a e) (hp : Bk w0 p #[.pointer (some ⟨b, 0, none⟩)] 28) (hq : Bk w0 q #[.int .u64 x0] 23) (hm : Bk w0 m #[.int .i64 most] 3) (hmo : most ≤ 9223372036854775807) (hb : base ≤ w0.heap.size) : Does Tryz.prog 32 #[.pointer (some ⟨b, 0, none⟩), .func (.func 56) #[] #[.pointer (some ⟨p, 0, none⟩), .pointer (some ⟨q, 0, none⟩), .pointer (some ⟨m, 0, none⟩)]] w0 (fun r w' => ∃ x : Int, r = .bool (decide (e = 0 ∧ (countR most (l.drop a)).1 = 0)) ∧ RdAt base w' b v l (nxt (a, e) (countR most (l.drop a)).1 (countR most (l.drop a)).2.2).1 (nxt (a, e) (countR most (l.drop a)).1 (countR most (l.drop a)).2.2).2 ∧ Bk w' q #[.int .u64 x] 23 ∧ Ch (fun j => j = b ∨ j = q) w0 w' ∧ (e = 0 → (countR most (l.drop a)).1 = 0 → x = (countR most (l.drop a)).2.1)) := by
  have hbk := hR.bk
  have how := hR.ow
  have ha := hR.ha
  have hl := hR.hl
  have hnv := hR.nov
  have hne := Bk.ne hbk hq (by decide)
  have hqv := ow_nb hR.ow hq (by decide)
  have hlb := hbk.lt
  have hlq := hq.lt
  refine fn_of (n := 29) (args := [.pointer (some ⟨b, 0, none⟩), .func (.func 56) #[] #[.pointer (some ⟨p, 0, none⟩), .pointer (some ⟨q, 0, none⟩), .pointer (some ⟨m, 0, none⟩)]]) Tryz.func32 rfl rfl rfl ?_
  refine W_seq ?_
  refine W_region ?_
  refine L_r (r_ab rfl) ?_
  refine L_nil ?_
  refine W_seq ?_
  refine W_seq ?_
  refine W_region ?_
  refine L_r (r_mp rfl) ?_
  refine L_r (r_nilCheck rfl) ?_
  refine L_r (r_fieldb Tryz.underlying53 rfl (show _ = some 1 from rfl) rfl rfl (show _ = 2 from rfl)) ?_
  refine L_r (r_lb rfl rfl) ?_
  refine L_r (r_neq rfl rfl) ?_
  refine L_nil ?_
  refine W_if rfl (fun h10 => ?_) (fun h10 => ?_)
  · refine W_seq ?_
    refine W_region ?_
    refine L_r (r_ab rfl) ?_
    refine L_nil ?_
    refine W_ret ?_
    refine ret1 (v := .bool _) rfl rfl ?_
    first
    | (have he : e ≠ 0 := by assumption
       rw [nxt_bad he]
       exact ⟨x0, congrArg Value.bool (decide_eq_false (fun h => he h.1)).symm, ⟨Bk.au, hR.hb, Ow.au, by omega, hl⟩, Bk.au, Ch.au, fun h => absurd h he⟩)
    | (obtain rfl : e = 0 := by omega
       have hz : (countR most (l.drop a)).1 ≠ 0 := by assumption
       rw [nxt_err hz]
       exact ⟨x1, congrArg Value.bool (decide_eq_false (fun h => hz h.2)).symm, ⟨Bk.au, hR.hb, Ow.au, by omega, hl⟩, Bk.au, Ch.au, fun _ h => absurd h hz⟩)
    | (obtain rfl : e = 0 := by omega
       have hz : (countR most (l.drop a)).1 = 0 := by omega
       obtain ⟨hA, hX⟩ := hn1 hz
       subst hA
       rw [nxt_ok hz]
       exact ⟨x1, congrArg Value.bool (decide_eq_true ⟨rfl, hz⟩).symm, ⟨Bk.au, hR.hb, Ow.au, ha1, hl⟩, Bk.au, Ch.au, fun _ _ => hX⟩)
  · refine W_skip ?_
    refine W_seq ?_
    refine W_region ?_
    refine L_r (r_mp rfl) ?_
    refine L_r (r_nilCheck rfl) ?_
    refine L_r (r_fieldb Tryz.underlying53 rfl (show _ = some 1 from rfl) rfl rfl (show _ = 1 from rfl)) ?_
    refine L_r (r_lb rfl rfl) ?_
    refine L_r (r_ai rfl) ?_
    refine L_nil ?_
    refine W_seq ?_
    refine W_seq ?_
    refine W_region ?_
    refine L_r (r_mp rfl) ?_
    refine L_r (r_mv) ?_
    refine L_call (.plain rfl) rfl rfl (r_call Tryz.func56 rfl rfl rfl (by rfl)) (ccount_walk base b p q m v l a e x0 most _ (hR.nw Ch.au) Bk.au Bk.au Bk.au hmo (by omega)) ?_
    rintro v17 w1 ⟨a1, x1, rfl, hR1, hq1, c1, hn1⟩
    have hz1 := c1.size
    have hbk1 := hR1.bk
    have ha1 := hR1.ha
    have how1 := hR1.ow
    have hsl1 := hR1.ow.sl
    refine L_r (r_nilCheck rfl) ?_
    refine L_r (r_fieldb Tryz.underlying53 rfl (show _ = some 1 from rfl) rfl rfl (show _ = 2 from rfl)) ?_
    refine L_set (.plain rfl) rfl Bk.au (r_store (v := .int _ _) rfl rfl rfl rfl Bk.au (by first | decide | (simp; done) | omega)) (fun w2 hb2 hs2 c2 => ?_)
    try simp only [List.setIfInBounds_toArray, List.set_cons_zero, List.set_cons_succ] at hb2
    refine L_nil ?_
    refine W_seq ?_
    refine W_region ?_
    refine L_r (r_mp rfl) ?_
    refine L_r (r_nilCheck rfl) ?_
    refine L_r (r_fieldb Tryz.underlying53 rfl (show _ = some 1 from rfl) rfl rfl (show _ = 2 from rfl)) ?_
    refine L_r (r_lb rfl rfl) ?_
    refine L_r (r_neq rfl rfl) ?_
    refine L_nil ?_
    refine W_if rfl (fun h24 => ?_) (fun h24 => ?_)
    · refine W_seq ?_
      refine W_region ?_
      refine L_r (r_mp rfl) ?_
      refine L_r (r_mi rfl) ?_
      refine L_r (r_nilCheck rfl) ?_
      refine L_r (r_fieldb Tryz.underlying53 rfl (show _ = some 1 from rfl) rfl rfl (show _ = 1 from rfl)) ?_
      refine L_set (.plain rfl) rfl Bk.au (r_store (v := .int _ _) rfl rfl rfl rfl Bk.au (by first | decide | (simp; done) | omega)) (fun w3 hb3 hs3 c3 => ?_)
      try simp only [List.setIfInBounds_toArray, List.set_cons_zero, List.set_cons_succ] at hb3
      refine L_nil ?_
      refine W_seq ?_
      refine W_region ?_
      refine L_r (r_ab rfl) ?_
      refine L_nil ?_
      refine W_ret ?_
      refine ret1 (v := .bool _) rfl rfl ?_
      first
      | (have he : e ≠ 0 := by assumption
         rw [nxt_bad he]
         exact ⟨x0, congrArg Value.bool (decide_eq_false (fun h => he h.1)).symm, ⟨Bk.au, hR.hb, Ow.au, by omega, hl⟩, Bk.au, Ch.au, fun h => absurd h he⟩)
      | (obtain rfl : e = 0 := by omega
         have hz : (countR most (l.drop a)).1 ≠ 0 := by assumption
         rw [nxt_err hz]
         exact ⟨x1, congrArg Value.bool (decide_eq_false (fun h => hz h.2)).symm, ⟨Bk.au, hR.hb, Ow.au, by omega, hl⟩, Bk.au, Ch.au, fun _ h => absurd h hz⟩)
      | (obtain rfl : e = 0 := by omega
         have hz : (countR most (l.drop a)).1 = 0 := by omega
         obtain ⟨hA, hX⟩ := hn1 hz
         subst hA
         rw [nxt_ok hz]
         exact ⟨x1, congrArg Value.bool (decide_eq_true ⟨rfl, hz⟩).symm, ⟨Bk.au, hR.hb, Ow.au, ha1, hl⟩, Bk.au, Ch.au, fun _ _ => hX⟩)
    · refine W_skip ?_
      refine W_seq ?_
      refine W_region ?_
      refine L_r (r_ab rfl) ?_
      refine L_nil ?_
      refine W_ret ?_
      refine ret1 (v := .bool _) rfl rfl ?_
      first
      | (have he : e ≠ 0 := by assumption
         rw [nxt_bad he]
         exact ⟨x0, congrArg Value.bool (decide_eq_false (fun h => he h.1)).symm, ⟨Bk.au, hR.hb, Ow.au, by omega, hl⟩, Bk.au, Ch.au, fun h => absurd h he⟩)
      | (obtain rfl : e = 0 := by omega
         have hz : (countR most (l.drop a)).1 ≠ 0 := by assumption
         rw [nxt_err hz]
         exact ⟨x1, congrArg Value.bool (decide_eq_false (fun h => hz h.2)).symm, ⟨Bk.au, hR.hb, Ow.au, by omega, hl⟩, Bk.au, Ch.au, fun _ h => absurd h hz⟩)
      | (obtain rfl : e = 0 := by omega
         have hz : (countR most (l.drop a)).1 = 0 := by omega
         obtain ⟨hA, hX⟩ := hn1 hz
         subst hA
         rw [nxt_ok hz]
         exact ⟨x1, congrArg Value.bool (decide_eq_true ⟨rfl, hz⟩).symm, ⟨Bk.au, hR.hb, Ow.au, ha1, hl⟩, Bk.au, Ch.au, fun _ _ => hX⟩)
end Go.Proofs.YtioonbfinnigpaaGreatDoor

