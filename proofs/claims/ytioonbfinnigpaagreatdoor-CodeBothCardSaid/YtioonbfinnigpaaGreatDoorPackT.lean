/- The reader: a flag, a text, how many are left, the error, the end; walked. -/
import Derived.Test.YtioonbfinnigpaaGreatDoorPackU
namespace Go.Proofs.YtioonbfinnigpaaGreatDoor
open Go Go.RowKit
set_option linter.unusedVariables false
set_option maxRecDepth 100000
set_option linter.unusedSimpArgs false
/-- A flag of bytes. -/
def flagR : List UInt8 → Int × Bool × Nat
  | [] => (10, false, 0)
  | c :: _ => if 1 < c.toNat then (11, false, 0) else (0, decide (c.toNat = 1), 1)
/-- A text of bytes. -/
def textR (m : List UInt8) : Int × List UInt8 × Nat :=
  if (numL 0 m).1 ≠ 0 then ((numL 0 m).1, [], 0) else
  if 4096 < (numL 0 m).2.1 then (12, [], 0) else
  if m.length - (numL 0 m).2.2 < (numL 0 m).2.1 then (10, [], 0) else
  if Lib.validD ((m.drop (numL 0 m).2.2).take (numL 0 m).2.1) = true then (0, (m.drop (numL 0 m).2.2).take (numL 0 m).2.1, (numL 0 m).2.2 + (numL 0 m).2.1) else (11, [], 0)
/-- A count of bytes. -/
def countR (most : Int) (m : List UInt8) : Int × Nat × Nat :=
  if (numL 0 m).1 = 0 ∧ (most < 0 ∨ most < (numL 0 m).2.1 ∨ m.length - (numL 0 m).2.2 < (numL 0 m).2.1) then (12, 0, 0) else numL 0 m
theorem left_walk (base b : Nat) (v : Value) (l : List UInt8) (a : Nat) (e : Int) (w0 : World) (hR : RdAt base w0 b v l a e) : Does Tryz.prog 35 #[.pointer (some ⟨b, 0, none⟩)] w0 (fun r w' => r = .int .i64 ((l.length - a : Nat) : Int) ∧ Nw w0 w') := by
  have hbk := hR.bk
  have ha := hR.ha
  have hl := hR.hl
  have hsl := hR.ow.sl
  refine fn_of (n := 13) (args := [.pointer (some ⟨b, 0, none⟩)]) Tryz.func35 rfl rfl rfl ?_
  refine W_seq ?_
  refine W_region ?_
  refine L_r (r_ai rfl) ?_
  refine L_nil ?_
  refine W_seq ?_
  refine W_still (by kernel_rfl) (by kernel_rfl) (fun w1 c1 hs1 => ?_)
  refine H_r (r_mp rfl) ?_
  refine H_r (r_nilCheck rfl) ?_
  refine H_r (r_fieldb Tryz.underlying53 rfl (show _ = some 1 from rfl) rfl rfl (show _ = 0 from rfl)) ?_
  refine H_r (r_lb rfl rfl) ?_
  refine H_r (r_lenSl Tryz.underlying30 (by conv => lhs; whnf) Sl.au) ?_
  refine H_r (r_mp rfl) ?_
  refine H_r (r_nilCheck rfl) ?_
  refine H_r (r_fieldb Tryz.underlying53 rfl (show _ = some 1 from rfl) rfl rfl (show _ = 1 from rfl)) ?_
  refine H_r (r_lb rfl rfl) ?_
  refine H_r (r_sub rfl rfl (by first | exact wr_i64 (by omega) | rfl)) ?_
  refine H_r (r_ai rfl) ?_
  refine H_nil ?_
  refine W_ret ?_
  refine ret1 (v := .int _ _) rfl rfl ?_
  exact ⟨congrArg (Value.int _) (by omega), Ch.au⟩
theorem err_walk (base b : Nat) (v : Value) (l : List UInt8) (a : Nat) (e : Int) (w0 : World) (hR : RdAt base w0 b v l a e) : Does Tryz.prog 30 #[.pointer (some ⟨b, 0, none⟩)] w0 (fun r w' => r = .tuple #[.int .i64 (if e = 0 then 0 else a), .int .i64 e] ∧ Nw w0 w') := by
  have hbk := hR.bk
  have ha := hR.ha
  have hl := hR.hl
  refine fn_of (n := 17) (args := [.pointer (some ⟨b, 0, none⟩)]) Tryz.func30 rfl rfl rfl ?_
  refine W_seq ?_
  refine W_region ?_
  refine L_r (r_ai rfl) ?_
  refine L_r (r_ai rfl) ?_
  refine L_nil ?_
  refine W_seq ?_
  refine W_seq ?_
  refine W_region ?_
  refine L_r (r_mp rfl) ?_
  refine L_r (r_nilCheck rfl) ?_
  refine L_r (r_fieldb Tryz.underlying53 rfl (show _ = some 1 from rfl) rfl rfl (show _ = 2 from rfl)) ?_
  refine L_r (r_lb rfl rfl) ?_
  refine L_r (r_eql rfl rfl) ?_
  refine L_nil ?_
  refine W_if rfl (fun h8 => ?_) (fun h8 => ?_)
  · refine W_seq ?_
    refine W_region ?_
    refine L_r (r_ai rfl) ?_
    refine L_r (r_ai rfl) ?_
    refine L_nil ?_
    refine W_ret ?_
    refine ret2 (u := .int _ _) (v := .int _ _) rfl rfl rfl ?_
    first
    | exact ⟨by rw [if_pos (by assumption)]; congr; exact Eq.symm (by assumption), Ch.au⟩
    | exact ⟨by rw [if_neg (by assumption)], Ch.au⟩
  · refine W_skip ?_
    refine W_seq ?_
    refine W_still (by kernel_rfl) (by kernel_rfl) (fun w1 c1 hs1 => ?_)
    refine H_r (r_mp rfl) ?_
    refine H_r (r_nilCheck rfl) ?_
    refine H_r (r_fieldb Tryz.underlying53 rfl (show _ = some 1 from rfl) rfl rfl (show _ = 1 from rfl)) ?_
    refine H_r (r_lb rfl rfl) ?_
    refine H_r (r_mp rfl) ?_
    refine H_r (r_nilCheck rfl) ?_
    refine H_r (r_fieldb Tryz.underlying53 rfl (show _ = some 1 from rfl) rfl rfl (show _ = 2 from rfl)) ?_
    refine H_r (r_lb rfl rfl) ?_
    refine H_r (r_ai rfl) ?_
    refine H_r (r_ai rfl) ?_
    refine H_nil ?_
    refine W_ret ?_
    refine ret2 (u := .int _ _) (v := .int _ _) rfl rfl rfl ?_
    first
    | exact ⟨by rw [if_pos (by assumption)]; congr; exact Eq.symm (by assumption), Ch.au⟩
    | exact ⟨by rw [if_neg (by assumption)], Ch.au⟩
section
variable {m : List UInt8}
theorem textR_err (h : (numL 0 m).1 ≠ 0) : textR m = ((numL 0 m).1, [], 0) := by rw [textR, if_pos h]
theorem textR_big (h0 : ¬ (numL 0 m).1 ≠ 0) (h : 4096 < (numL 0 m).2.1) : textR m = (12, [], 0) := by rw [textR, if_neg h0, if_pos h]
theorem textR_short (h0 : ¬ (numL 0 m).1 ≠ 0) (h1 : ¬ 4096 < (numL 0 m).2.1) (h : m.length - (numL 0 m).2.2 < (numL 0 m).2.1) : textR m = (10, [], 0) := by rw [textR, if_neg h0, if_neg h1, if_pos h]
theorem textR_form (h0 : ¬ (numL 0 m).1 ≠ 0) (h1 : ¬ 4096 < (numL 0 m).2.1) (h2 : ¬ m.length - (numL 0 m).2.2 < (numL 0 m).2.1) (h : ¬ Lib.validD ((m.drop (numL 0 m).2.2).take (numL 0 m).2.1) = true) : textR m = (11, [], 0) := by rw [textR, if_neg h0, if_neg h1, if_neg h2, if_neg h]
theorem textR_good (h0 : ¬ (numL 0 m).1 ≠ 0) (h1 : ¬ 4096 < (numL 0 m).2.1) (h2 : ¬ m.length - (numL 0 m).2.2 < (numL 0 m).2.1) (h : Lib.validD ((m.drop (numL 0 m).2.2).take (numL 0 m).2.1) = true) : textR m = (0, (m.drop (numL 0 m).2.2).take (numL 0 m).2.1, (numL 0 m).2.2 + (numL 0 m).2.1) := by rw [textR, if_neg h0, if_neg h1, if_neg h2, if_pos h]
end
theorem drop_at (l : List UInt8) (a k n : Nat) : ((l.drop a).drop k).take n = (l.drop (a + k)).take n := by rw [List.drop_drop]
theorem text_walk (base b q : Nat) (v : Value) (l : List UInt8) (a : Nat) (e : Int) (x0 : List UInt8) (w0 : World) (hR : RdAt base w0 b v l a e) (hq : Bk w0 q #[.string (sb x0)] 9) (hT : Tabs base w0) (hb : base ≤ w0.heap.size) (hbq : base ≤ q) : Does Tryz.prog 59 #[.pointer (some ⟨b, 0, none⟩), .pointer (some ⟨q, 0, none⟩)] w0 (fun r w' => ∃ (a' : Nat) (x : List UInt8), r = .int .i64 (textR (l.drop a)).1 ∧ RdAt base w' b v l a' e ∧ Bk w' q #[.string (sb x)] 9 ∧ Ch (fun j => j = b ∨ j = q) w0 w' ∧ ((textR (l.drop a)).1 = 0 → a' = a + (textR (l.drop a)).2.2 ∧ x = (textR (l.drop a)).2.1)) := by
  have hbk := hR.bk
  have ha := hR.ha
  have hl := hR.hl
  have hne := Bk.ne hbk hq (by decide)
  have hnv := hR.nov
  have hqv := ow_nb hR.ow hq (by decide)
  have hlb := hbk.lt
  have hlq := hq.lt
  refine fn_of (n := 52) (args := [.pointer (some ⟨b, 0, none⟩), .pointer (some ⟨q, 0, none⟩)]) Tryz.func59 rfl rfl rfl ?_
  refine W_seq ?_
  refine W_region ?_
  refine L_r (r_ai rfl) ?_
  refine L_nil ?_
  refine W_seq ?_
  refine W_region ?_
  refine L_new (.plain rfl) rfl rfl (r_alloc1 rfl rfl) (fun w1 b5 hb5 eb1 hs1 c1 => ?_)
  refine L_set (.plain rfl) rfl Bk.au (r_store (v := .int _ _) rfl rfl rfl rfl Bk.au (by first | decide | (simp; done) | omega)) (fun w2 hb2 hs2 c2 => ?_)
  try simp only [List.setIfInBounds_toArray, List.set_cons_zero, List.set_cons_succ] at hb2
  refine L_nil ?_
  refine W_seq ?_
  refine W_seq ?_
  refine W_region ?_
  refine L_r (r_mp rfl) ?_
  refine L_call (.plain rfl) rfl rfl (r_call Tryz.func34 rfl rfl rfl (by rfl)) (number_walk base b _ v l a e 0 _ (hR.nw Ch.au) Bk.au (by omega)) ?_
  rintro v9 w3 ⟨a1, x1, rfl, hR1, hq1, c3, hn1⟩
  have hz3 := c3.size
  have hbk1 := hR1.bk
  have ha1 := hR1.ha
  have how1 := hR1.ow
  have hsl1 := hR1.ow.sl
  refine L_r (r_ai rfl) ?_
  refine L_nil ?_
  refine W_seq ?_
  refine W_region ?_
  refine L_r (r_mi rfl) ?_
  refine L_r (r_neq rfl rfl) ?_
  refine L_nil ?_
  refine W_if rfl (fun h11 => ?_) (fun h11 => ?_)
  · refine W_seq ?_
    refine W_region ?_
    refine L_r (r_mi rfl) ?_
    refine L_r (r_ai rfl) ?_
    refine L_nil ?_
    refine W_ret ?_
    refine ret1 (v := .int _ _) rfl rfl ?_
    first
    | (have hf := textR_err (m := l.drop a) (by assumption)
       rw [hf]
       exact ⟨a1, x0, rfl, ⟨Bk.au, hR.hb, Ow.au, by omega, hl⟩, Bk.au, Ch.au, fun h => absurd h (by assumption)⟩)
    | (have hf := textR_big (m := l.drop a) (by assumption) (by omega)
       rw [hf]
       exact ⟨a1, x0, rfl, ⟨Bk.au, hR.hb, Ow.au, by omega, hl⟩, Bk.au, Ch.au, fun h => absurd h (by decide)⟩)
    | (have hf := textR_short (m := l.drop a) (by assumption) (by omega) (by rw [List.length_drop]; omega)
       rw [hf]
       exact ⟨a1, x0, rfl, ⟨Bk.au, hR.hb, Ow.au, by omega, hl⟩, Bk.au, Ch.au, fun h => absurd h (by decide)⟩)
    | (have hf := textR_form (m := l.drop a) (by assumption) (by omega) (by rw [List.length_drop]; omega) (by rw [drop_at, ← ha2, ← hn]; intro hv; have h39' := h39; simp only [show (sb ((l.drop a1).take n)).data.toList = (l.drop a1).take n from rfl, hv] at h39'; simp at h39')
       rw [hf]
       exact ⟨a1, x0, rfl, ⟨Bk.au, hR.hb, Ow.au, by omega, hl⟩, Bk.au, Ch.au, fun h => absurd h (by decide)⟩)
    | (have hf := textR_good (m := l.drop a) (by assumption) (by omega) (by rw [List.length_drop]; omega) (by rw [drop_at, ← ha2, ← hn]; have h39' := h39; simp at h39'; exact h39')
       rw [hf, drop_at, ← ha2, ← hn]
       subst hx1
       exact ⟨a1 + n, (l.drop a1).take n, rfl, ⟨Bk.au, hR.hb, Ow.au, by omega, hl⟩, Bk.au, Ch.au, fun h => ⟨by show a1 + n = a + ((numL 0 (l.drop a)).2.2 + n); omega, rfl⟩⟩)
  · obtain ⟨ha2, hx0⟩ := hn1 (by omega)
    obtain ⟨n, hn⟩ : ∃ n, n = (numL 0 (l.drop a)).2.1 := ⟨_, rfl⟩
    have hx1 : x1 = (n : Int) := by rw [hn]; exact hx0
    clear hx0
    refine W_skip ?_
    refine W_seq ?_
    refine W_seq ?_
    refine W_region ?_
    refine L_r (r_lb rfl rfl) ?_
    refine L_r (r_gtr rfl rfl) ?_
    refine L_nil ?_
    refine W_if rfl (fun h14 => ?_) (fun h14 => ?_)
    · refine W_seq ?_
      refine W_region ?_
      refine L_r (r_ai rfl) ?_
      refine L_nil ?_
      refine W_ret ?_
      refine ret1 (v := .int _ _) rfl rfl ?_
      first
      | (have hf := textR_err (m := l.drop a) (by assumption)
         rw [hf]
         exact ⟨a1, x0, rfl, ⟨Bk.au, hR.hb, Ow.au, by omega, hl⟩, Bk.au, Ch.au, fun h => absurd h (by assumption)⟩)
      | (have hf := textR_big (m := l.drop a) (by assumption) (by omega)
         rw [hf]
         exact ⟨a1, x0, rfl, ⟨Bk.au, hR.hb, Ow.au, by omega, hl⟩, Bk.au, Ch.au, fun h => absurd h (by decide)⟩)
      | (have hf := textR_short (m := l.drop a) (by assumption) (by omega) (by rw [List.length_drop]; omega)
         rw [hf]
         exact ⟨a1, x0, rfl, ⟨Bk.au, hR.hb, Ow.au, by omega, hl⟩, Bk.au, Ch.au, fun h => absurd h (by decide)⟩)
      | (have hf := textR_form (m := l.drop a) (by assumption) (by omega) (by rw [List.length_drop]; omega) (by rw [drop_at, ← ha2, ← hn]; intro hv; have h39' := h39; simp only [show (sb ((l.drop a1).take n)).data.toList = (l.drop a1).take n from rfl, hv] at h39'; simp at h39')
         rw [hf]
         exact ⟨a1, x0, rfl, ⟨Bk.au, hR.hb, Ow.au, by omega, hl⟩, Bk.au, Ch.au, fun h => absurd h (by decide)⟩)
      | (have hf := textR_good (m := l.drop a) (by assumption) (by omega) (by rw [List.length_drop]; omega) (by rw [drop_at, ← ha2, ← hn]; have h39' := h39; simp at h39'; exact h39')
         rw [hf, drop_at, ← ha2, ← hn]
         subst hx1
         exact ⟨a1 + n, (l.drop a1).take n, rfl, ⟨Bk.au, hR.hb, Ow.au, by omega, hl⟩, Bk.au, Ch.au, fun h => ⟨by show a1 + n = a + ((numL 0 (l.drop a)).2.2 + n); omega, rfl⟩⟩)
    · refine W_skip ?_
      refine W_seq ?_
      refine W_seq ?_
      refine W_draw (fun W => Bk W b5 #[.int .u64 x1] 23 ∧ RdAt base W b v l a1 e) 5 (m := 5) (by kernel_rfl) rfl (fun w4 c4 hs4 => ?_)
      refine held (by exact ⟨Bk.au, hR1.nw Ch.au⟩) (fun hS => ?_)
      refine D_t 0 rfl (fun W hW => r_loadb rfl rfl gw (by first | assumption | (conv => lhs; simp only [List.getElem?_toArray, List.getElem?_cons_succ, List.getElem?_cons_zero]))) ?_
      refine D_t 1 rfl (fun W hW => r_mp rfl) ?_
      refine D_ev 2 (by kernel_rfl) rfl ?_
      refine L_call (.plain rfl) rfl rfl (r_call Tryz.func35 rfl rfl rfl (by rfl)) (left_walk base b v l a1 e _ (hR1.nw Ch.au)) ?_
      rintro v17 w5 ⟨rfl, c5⟩
      have hz5 := c5.size
      refine L_nil ?_
      refine heldK (by exact ⟨Bk.au, hR1.nw Ch.au⟩) (fun hS => ?_)
      refine D_t 3 rfl (fun W hW => r_conv Tryz.underlying3 Tryz.underlying23 rfl (by first | exact wr_u64 (by omega) | rfl)) ?_
      refine D_t 4 rfl (fun W hW => r_gtr rfl rfl) ?_
      refine D_done (by kernel_rfl) ?_
      refine W_if rfl (fun h19 => ?_) (fun h19 => ?_)
      · refine W_seq ?_
        refine W_region ?_
        refine L_r (r_ai rfl) ?_
        refine L_nil ?_
        refine W_ret ?_
        refine ret1 (v := .int _ _) rfl rfl ?_
        first
        | (have hf := textR_err (m := l.drop a) (by assumption)
           rw [hf]
           exact ⟨a1, x0, rfl, ⟨Bk.au, hR.hb, Ow.au, by omega, hl⟩, Bk.au, Ch.au, fun h => absurd h (by assumption)⟩)
        | (have hf := textR_big (m := l.drop a) (by assumption) (by omega)
           rw [hf]
           exact ⟨a1, x0, rfl, ⟨Bk.au, hR.hb, Ow.au, by omega, hl⟩, Bk.au, Ch.au, fun h => absurd h (by decide)⟩)
        | (have hf := textR_short (m := l.drop a) (by assumption) (by omega) (by rw [List.length_drop]; omega)
           rw [hf]
           exact ⟨a1, x0, rfl, ⟨Bk.au, hR.hb, Ow.au, by omega, hl⟩, Bk.au, Ch.au, fun h => absurd h (by decide)⟩)
        | (have hf := textR_form (m := l.drop a) (by assumption) (by omega) (by rw [List.length_drop]; omega) (by rw [drop_at, ← ha2, ← hn]; intro hv; have h39' := h39; simp only [show (sb ((l.drop a1).take n)).data.toList = (l.drop a1).take n from rfl, hv] at h39'; simp at h39')
           rw [hf]
           exact ⟨a1, x0, rfl, ⟨Bk.au, hR.hb, Ow.au, by omega, hl⟩, Bk.au, Ch.au, fun h => absurd h (by decide)⟩)
        | (have hf := textR_good (m := l.drop a) (by assumption) (by omega) (by rw [List.length_drop]; omega) (by rw [drop_at, ← ha2, ← hn]; have h39' := h39; simp at h39'; exact h39')
           rw [hf, drop_at, ← ha2, ← hn]
           subst hx1
           exact ⟨a1 + n, (l.drop a1).take n, rfl, ⟨Bk.au, hR.hb, Ow.au, by omega, hl⟩, Bk.au, Ch.au, fun h => ⟨by show a1 + n = a + ((numL 0 (l.drop a)).2.2 + n); omega, rfl⟩⟩)
      · refine W_skip ?_
        refine W_seq ?_
        refine W_still (by kernel_rfl) (by kernel_rfl) (fun w6 c6 hs6 => ?_)
        refine H_r (r_mp rfl) ?_
        refine H_r (r_nilCheck rfl) ?_
        refine H_r (r_fieldb Tryz.underlying53 rfl (show _ = some 1 from rfl) rfl rfl (show _ = 0 from rfl)) ?_
        refine H_r (r_lb rfl rfl) ?_
        refine H_r (r_mp rfl) ?_
        refine H_r (r_nilCheck rfl) ?_
        refine H_r (r_fieldb Tryz.underlying53 rfl (show _ = some 1 from rfl) rfl rfl (show _ = 1 from rfl)) ?_
        refine H_r (r_lb rfl rfl) ?_
        refine H_r (r_mp rfl) ?_
        refine H_r (r_nilCheck rfl) ?_
        refine H_r (r_fieldb Tryz.underlying53 rfl (show _ = some 1 from rfl) rfl rfl (show _ = 1 from rfl)) ?_
        refine H_r (r_lb rfl rfl) ?_
        refine H_r (r_lb rfl rfl) ?_
        refine H_r (r_conv Tryz.underlying23 Tryz.underlying3 rfl (by first | exact wr_i64 (by omega) | rfl)) ?_
        refine H_r (r_add rfl rfl (by first | exact wr_i64 (by omega) | rfl)) ?_
        refine H_pure (.plain rfl) rfl rfl (cut_lh (w := w6) Tryz.underlying30 (show _ = some 1 from rfl) (by conv => lhs; whnf) Sl.au rfl rfl (by omega) (by omega) (by omega)) ?_
        rintro v35 ⟨hv35, ho35⟩
        have hB35 : Sl w6 v35 1 ((l.drop a1).take n).length (((l.drop a1).take n).map b8) := by
          have e1 : ((l.drop a1).take n).length = ((a1 : Int) + x1).toNat - (a1 : Int).toNat := by rw [List.length_take, List.length_drop]; omega
          have e2 : ((l.drop a1).take n).map b8 = ((l.map b8).take (((a1 : Int) + x1).toNat * 1)).drop ((a1 : Int).toNat * 1) := by
            rw [List.map_take, List.map_drop, List.drop_take]
            congr 1
            · omega
            · congr 1
              omega
          rw [e1, e2]; exact hv35
        refine H_r (r_bstr Tryz.underlying30 Tryz.underlying5 Tryz.underlying9 (by conv => lhs; whnf) Sl.au) ?_
        refine H_r (r_as rfl) ?_
        refine H_nil ?_
        refine W_seq ?_
        refine W_seq ?_
        refine W_region ?_
        refine L_r (r_ms rfl) ?_
        refine L_call (.plain rfl) rfl rfl (r_call Tryz.func73 rfl rfl rfl (by rfl)) (valid_walk base _ _ (hT.ch (T := fun j => j = b ∨ j = q) Ch.au hb (fun i h => by rcases h with h | h <;> (rw [h]; first | exact hR.hb | exact hbq))) (by show ((l.drop a1).take n).length ≤ _; rw [List.length_take]; omega)) ?_
        rintro v38 w7 ⟨rfl, c7⟩
        have hz7 := c7.size
        refine L_r (r_not rfl) ?_
        refine L_nil ?_
        refine W_bool rfl (fun h39 => ?_) (fun h39 => ?_)
        · refine W_seq ?_
          refine W_region ?_
          refine L_r (r_ai rfl) ?_
          refine L_nil ?_
          refine W_ret ?_
          refine ret1 (v := .int _ _) rfl rfl ?_
          first
          | (have hf := textR_err (m := l.drop a) (by assumption)
             rw [hf]
             exact ⟨a1, x0, rfl, ⟨Bk.au, hR.hb, Ow.au, by omega, hl⟩, Bk.au, Ch.au, fun h => absurd h (by assumption)⟩)
          | (have hf := textR_big (m := l.drop a) (by assumption) (by omega)
             rw [hf]
             exact ⟨a1, x0, rfl, ⟨Bk.au, hR.hb, Ow.au, by omega, hl⟩, Bk.au, Ch.au, fun h => absurd h (by decide)⟩)
          | (have hf := textR_short (m := l.drop a) (by assumption) (by omega) (by rw [List.length_drop]; omega)
             rw [hf]
             exact ⟨a1, x0, rfl, ⟨Bk.au, hR.hb, Ow.au, by omega, hl⟩, Bk.au, Ch.au, fun h => absurd h (by decide)⟩)
          | (have hf := textR_form (m := l.drop a) (by assumption) (by omega) (by rw [List.length_drop]; omega) (by rw [drop_at, ← ha2, ← hn]; intro hv; have h39' := h39; simp only [show (sb ((l.drop a1).take n)).data.toList = (l.drop a1).take n from rfl, hv] at h39'; simp at h39')
             rw [hf]
             exact ⟨a1, x0, rfl, ⟨Bk.au, hR.hb, Ow.au, by omega, hl⟩, Bk.au, Ch.au, fun h => absurd h (by decide)⟩)
          | (have hf := textR_good (m := l.drop a) (by assumption) (by omega) (by rw [List.length_drop]; omega) (by rw [drop_at, ← ha2, ← hn]; have h39' := h39; simp at h39'; exact h39')
             rw [hf, drop_at, ← ha2, ← hn]
             subst hx1
             exact ⟨a1 + n, (l.drop a1).take n, rfl, ⟨Bk.au, hR.hb, Ow.au, by omega, hl⟩, Bk.au, Ch.au, fun h => ⟨by show a1 + n = a + ((numL 0 (l.drop a)).2.2 + n); omega, rfl⟩⟩)
        · refine W_skip ?_
          refine W_seq ?_
          refine W_tail 9 (by kernel_rfl) (by kernel_rfl) (fun w8 c8 hs8 => ?_)
          refine H_r (r_mp rfl) ?_
          refine H_r (r_nilCheck rfl) ?_
          refine H_r (r_fieldb Tryz.underlying53 rfl (show _ = some 1 from rfl) rfl rfl (show _ = 1 from rfl)) ?_
          refine H_r (r_lb rfl rfl) ?_
          refine H_r (r_lb rfl rfl) ?_
          refine H_r (r_conv Tryz.underlying23 Tryz.underlying3 rfl (by first | exact wr_i64 (by omega) | rfl)) ?_
          refine H_r (r_add rfl rfl (by first | exact wr_i64 (by omega) | rfl)) ?_
          refine H_r (r_nilCheck rfl) ?_
          refine H_r (r_fieldb Tryz.underlying53 rfl (show _ = some 1 from rfl) rfl rfl (show _ = 1 from rfl)) ?_
          refine H_nil ?_
          refine L_set (.plain rfl) rfl Bk.au (r_store (v := .int _ _) rfl rfl rfl rfl Bk.au (by first | decide | (simp; done) | omega)) (fun w9 hb9 hs9 c9 => ?_)
          try simp only [List.setIfInBounds_toArray, List.set_cons_zero, List.set_cons_succ] at hb9
          refine L_nil ?_
          refine W_seq ?_
          refine W_region ?_
          refine L_r (r_mp rfl) ?_
          refine L_r (r_ms rfl) ?_
          refine L_r (r_nilCheck rfl) ?_
          refine L_set (.plain rfl) rfl Bk.au (r_store (v := .string _) rfl rfl rfl rfl Bk.au (by first | decide | (simp; done) | omega)) (fun w10 hb10 hs10 c10 => ?_)
          try simp only [List.setIfInBounds_toArray, List.set_cons_zero, List.set_cons_succ] at hb10
          refine L_nil ?_
          refine W_seq ?_
          refine W_region ?_
          refine L_r (r_ai rfl) ?_
          refine L_nil ?_
          refine W_ret ?_
          refine ret1 (v := .int _ _) rfl rfl ?_
          first
          | (have hf := textR_err (m := l.drop a) (by assumption)
             rw [hf]
             exact ⟨a1, x0, rfl, ⟨Bk.au, hR.hb, Ow.au, by omega, hl⟩, Bk.au, Ch.au, fun h => absurd h (by assumption)⟩)
          | (have hf := textR_big (m := l.drop a) (by assumption) (by omega)
             rw [hf]
             exact ⟨a1, x0, rfl, ⟨Bk.au, hR.hb, Ow.au, by omega, hl⟩, Bk.au, Ch.au, fun h => absurd h (by decide)⟩)
          | (have hf := textR_short (m := l.drop a) (by assumption) (by omega) (by rw [List.length_drop]; omega)
             rw [hf]
             exact ⟨a1, x0, rfl, ⟨Bk.au, hR.hb, Ow.au, by omega, hl⟩, Bk.au, Ch.au, fun h => absurd h (by decide)⟩)
          | (have hf := textR_form (m := l.drop a) (by assumption) (by omega) (by rw [List.length_drop]; omega) (by rw [drop_at, ← ha2, ← hn]; intro hv; have h39' := h39; simp only [show (sb ((l.drop a1).take n)).data.toList = (l.drop a1).take n from rfl, hv] at h39'; simp at h39')
             rw [hf]
             exact ⟨a1, x0, rfl, ⟨Bk.au, hR.hb, Ow.au, by omega, hl⟩, Bk.au, Ch.au, fun h => absurd h (by decide)⟩)
          | (have hf := textR_good (m := l.drop a) (by assumption) (by omega) (by rw [List.length_drop]; omega) (by rw [drop_at, ← ha2, ← hn]; have h39' := h39; simp at h39'; exact h39')
             rw [hf, drop_at, ← ha2, ← hn]
             subst hx1
             exact ⟨a1 + n, (l.drop a1).take n, rfl, ⟨Bk.au, hR.hb, Ow.au, by omega, hl⟩, Bk.au, Ch.au, fun h => ⟨by show a1 + n = a + ((numL 0 (l.drop a)).2.2 + n); omega, rfl⟩⟩)
end Go.Proofs.YtioonbfinnigpaaGreatDoor

