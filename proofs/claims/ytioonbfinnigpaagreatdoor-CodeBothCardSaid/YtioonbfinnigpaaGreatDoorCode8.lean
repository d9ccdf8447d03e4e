/- Lines; instructions as a text; instructions out of bytes; walked. -/
import Derived.Test.YtioonbfinnigpaaGreatDoorCode7
namespace Go.Proofs.YtioonbfinnigpaaGreatDoor
open Go Go.RowKit
set_option linter.unusedVariables false
set_option linter.unusedSimpArgs false
set_option maxRecDepth 100000
/-- The table of powers of ten is as it is laid, and lies below. -/
structure Fv (base : Nat) (w : World) : Prop where
  pow : ∃ t fr, w.heap[6]? = some (.cells (Lib.pow10Tab.map fun z => Value.int .u64 z).toArray t fr)
  lpow : 6 < base
theorem Fv.ch {base : Nat} {w w' : World} {T : Nat → Prop} (h : Fv base w) (c : Ch T w w') (hb : base ≤ w.heap.size) (hT : ∀ i, T i → base ≤ i) : Fv base w' := by
  have h1 := c.blk 6 (by have := h.lpow; omega) (fun x => by have := hT _ x; have := h.lpow; omega)
  obtain ⟨t, fr, hbo⟩ := h.pow
  exact ⟨⟨t, fr, h1.trans hbo⟩, h.lpow⟩
theorem Fv.nw {base : Nat} {w w' : World} (h : Fv base w) (c : Nw w w') (hb : base ≤ w.heap.size) : Fv base w' := h.ch c hb fun _ x => x.elim
theorem pow_name : Tryz.prog.globalNamed "internal/strconv.uint64pow10" = some 6 := by kernel_rfl
theorem Fv.tab {base : Nat} {w : World} (h : Fv base w) : Lib.TabIs Tryz.prog w "internal/strconv.uint64pow10" .u64 Lib.pow10Tab := by
  obtain ⟨t, fr, hb⟩ := h.pow
  unfold Lib.TabIs World.var?
  rw [pow_name, Option.bind_some, hb]
theorem nw_grow (w : World) (os : Array Obj) : Nw w (Sort.grow w os) := ⟨rfl, rfl, rfl, by simp [Sort.grow], fun i hi _ => by simp only [Sort.grow]; rw [Array.getElem?_append_left hi]⟩
theorem format_use (base : Nat) (n : Int) (w : World) (hn : -9223372036854775808 ≤ n ∧ n ≤ 9223372036854775807) (hF : Fv base w) : Does Tryz.prog 64 #[.int .i64 n, .int .i64 10] w (fun r w' => r = .string (sb (Lib.itoa n)) ∧ Nw w w') :=
  Calls.mono (Any.strconv_FormatInt_10 Tryz.laysFormat n hn.1 hn.2 w hF.tab) fun _ _ ⟨e, k, os, b⟩ => ⟨_, e, rfl, by subst b; exact (nw_drewN w k).trans (nw_grow _ _)⟩
theorem digits_len (u : Nat) (h : u ≤ 18446744073709551615) : (Lib.decDigits u).length ≤ 20 := by
  rw [Lib.decDigits_length]
  rcases Nat.lt_or_ge 20 (Lib.nDigits u) with h1 | h1
  · exfalso
    have h2 : ∀ (k u : Nat), k + 1 ≤ Lib.nDigits u → 10 ^ k ≤ u ∨ k = 0 := by
      intro k
      induction k with
      | zero => exact fun _ _ => .inr rfl
      | succ k ih =>
        intro u hu
        left
        by_cases h10 : u < 10
        · rw [Lib.nDigits_small h10] at hu; omega
        · rw [Lib.nDigits_big h10] at hu
          rcases ih (u / 10) (by omega) with h | h
          · rw [Nat.pow_succ]; omega
          · subst h; omega
    rcases h2 20 u (by omega) with h3 | h3 <;> omega
  · exact h1
theorem itoa_len {n : Int} (hn : -9223372036854775808 ≤ n ∧ n ≤ 9223372036854775807) : (Lib.itoa n).length ≤ 21 := by
  unfold Lib.itoa
  split
  · rw [List.length_cons]; have := digits_len n.natAbs (by omega); omega
  · have := digits_len n.toNat (by omega); omega
abbrev spB : ByteArray := { data := #[32] }
abbrev nlB : ByteArray := { data := #[10] }
/-- An instruction's line. -/
def linT (t : Bool × Bool × Bool) (x : Ins) : ByteArray :=
  if t.1 = true then x.op ++ spB ++ sb (Lib.itoa x.n) ++ nlB else if t.2.1 = true then x.op ++ spB ++ x.s ++ nlB else x.op ++ nlB
def linF (x : Ins) : ByteArray := linT (takesF x.op) x
theorem linF_size {x : Ins} (hn : -9223372036854775808 ≤ x.n ∧ x.n ≤ 9223372036854775807) : (linF x).size ≤ x.op.size + x.s.size + 23 := by
  have h := itoa_len hn
  unfold linF linT
  split
  · simp only [ByteArray.size_append, sb_size]
    show _ + 1 + _ + 1 ≤ _
    omega
  · split
    · simp only [ByteArray.size_append]
      show _ + 1 + _ + 1 ≤ _
      omega
    · simp only [ByteArray.size_append]
      show _ + 1 ≤ _
      omega
theorem line_walk (base : Nat) (x : Ins) (w0 : World) (hG : Gv base w0) (hF : Fv base w0) (hb : base ≤ w0.heap.size) (hn : -9223372036854775808 ≤ x.n ∧ x.n ≤ 9223372036854775807) (ho : x.op.size ≤ 1000000) (hs : x.s.size ≤ 1000000) : Does Tryz.prog 42 #[x.v] w0 (fun r w' => r = .string (linF x) ∧ Nw w0 w') := by
  have htk := fun W (c : Nw w0 W) => takes_walk base x.op W (hG.nw c hb) (Nat.le_trans hb c.size)
  have hFw := fun W (c : Nw w0 W) => hF.nw c hb
  have hsp : ({ data := #[32] } : ByteArray).size = 1 := rfl
  have hnl : ({ data := #[10] } : ByteArray).size = 1 := rfl
  have hil := itoa_len hn
  unfold linF
  generalize takesF x.op = t at htk ⊢
  obtain ⟨ta, tb, tc⟩ := t
  refine fn_of (n := 35) (args := [x.v]) Tryz.func42 rfl rfl rfl ?_
  refine W_seq ?_
  refine W_region ?_
  refine L_new (.plain rfl) rfl rfl (r_boxa rfl) (fun w1 b1 hb1 eb1 hs1 c1 => ?_)
  refine L_r (r_as rfl) ?_
  refine L_nil ?_
  refine W_seq ?_
  refine W_region ?_
  refine L_r (r_fieldb Tryz.underlying47 rfl (show _ = some 1 from rfl) rfl rfl (show _ = 0 from rfl)) ?_
  refine L_r (r_lb rfl rfl) ?_
  refine L_call (.plain rfl) rfl rfl (r_call Tryz.func44 rfl rfl rfl (by rfl)) (htk _ Ch.au) ?_
  rintro v9 w2 ⟨rfl, c2⟩
  have hz2 := c2.size
  refine L_r (r_mv) ?_
  refine L_r (r_ext3_0 rfl) ?_
  refine L_r (r_ext3_1 rfl) ?_
  refine L_r (r_ext3_2 rfl) ?_
  refine L_r (r_ab rfl) ?_
  refine L_r (r_ab rfl) ?_
  refine L_r (r_ab rfl) ?_
  refine L_nil ?_
  refine W_seq ?_
  refine W_block ?_
  refine W_seq ?_
  refine W_region ?_
  refine L_r (r_mb rfl) ?_
  refine L_r (r_ab rfl) ?_
  refine L_nil ?_
  refine W_bool rfl (fun h13 => ?_) (fun h13 => ?_)
  · refine W_seq ?_
    refine W_draw (fun W => Bk W b1 #[.string x.op, .int .i64 x.n, .string x.s] 47) 9 (m := 9) (by kernel_rfl) rfl (fun w3 c3 hs3 => ?_)
    refine held Bk.au (fun hS => ?_)
    refine D_t 0 rfl (fun W hW => r_fieldb Tryz.underlying47 rfl (show _ = some 1 from rfl) rfl rfl (show _ = 0 from rfl)) ?_
    refine D_t 1 rfl (fun W hW => r_loadb rfl rfl (by exact hW) (by first | assumption | (conv => lhs; simp only [List.getElem?_toArray, List.getElem?_cons_succ, List.getElem?_cons_zero]))) ?_
    refine D_t 2 rfl (fun W hW => r_adds rfl rfl (by first | omega | (simp only [ByteArray.size_append, sb_size]; omega) | (simp only [ByteArray.size_append]; omega))) ?_
    refine D_t 3 rfl (fun W hW => r_fieldb Tryz.underlying47 rfl (show _ = some 1 from rfl) rfl rfl (show _ = 1 from rfl)) ?_
    refine D_t 4 rfl (fun W hW => r_loadb rfl rfl (by exact hW) (by first | assumption | (conv => lhs; simp only [List.getElem?_toArray, List.getElem?_cons_succ, List.getElem?_cons_zero]))) ?_
    refine D_ev 5 (by kernel_rfl) rfl ?_
    refine L_call (.plain rfl) rfl rfl (r_call Tryz.func64 rfl rfl rfl (by rfl)) (format_use base x.n _ hn (hFw _ Ch.au)) ?_
    rintro v20 w4 ⟨rfl, c4⟩
    have hz4 := c4.size
    refine L_nil ?_
    refine heldK Bk.au (fun hS => ?_)
    refine D_t 6 rfl (fun W hW => r_adds rfl rfl (by first | omega | (simp only [ByteArray.size_append, sb_size]; omega) | (simp only [ByteArray.size_append]; omega))) ?_
    refine D_t 7 rfl (fun W hW => r_adds rfl rfl (by first | omega | (simp only [ByteArray.size_append, sb_size]; omega) | (simp only [ByteArray.size_append]; omega))) ?_
    refine D_t 8 rfl (fun W hW => r_as rfl) ?_
    refine D_done (by kernel_rfl) ?_
    refine W_ret ?_
    refine ret1 (v := .string _) rfl rfl ?_
    refine ⟨?_, Ch.au⟩
    (try simp only [decide_eq_true_eq, decide_eq_false_iff_not, Bool.not_eq_true', Bool.not_eq_false', ne_eq] at *)
    unfold linT
    first
    | (rw [if_pos (by assumption)]; done)
    | (rw [if_neg (by simp_all), if_pos (by assumption)]; done)
    | (rw [if_neg (by simp_all), if_neg (by simp_all)]; done)
  · refine W_seq ?_
    refine W_region ?_
    refine L_r (r_mb rfl) ?_
    refine L_r (r_ab rfl) ?_
    refine L_nil ?_
    refine W_bool rfl (fun h23 => ?_) (fun h23 => ?_)
    · refine W_seq ?_
      refine W_region ?_
      refine L_r (r_fieldb Tryz.underlying47 rfl (show _ = some 1 from rfl) rfl rfl (show _ = 0 from rfl)) ?_
      refine L_r (r_lb rfl rfl) ?_
      refine L_r (r_adds rfl rfl (by first | omega | (simp only [ByteArray.size_append, sb_size]; omega) | (simp only [ByteArray.size_append]; omega))) ?_
      refine L_r (r_fieldb Tryz.underlying47 rfl (show _ = some 1 from rfl) rfl rfl (show _ = 2 from rfl)) ?_
      refine L_r (r_lb rfl rfl) ?_
      refine L_r (r_adds rfl rfl (by first | omega | (simp only [ByteArray.size_append, sb_size]; omega) | (simp only [ByteArray.size_append]; omega))) ?_
      refine L_r (r_adds rfl rfl (by first | omega | (simp only [ByteArray.size_append, sb_size]; omega) | (simp only [ByteArray.size_append]; omega))) ?_
      refine L_r (r_as rfl) ?_
      refine L_nil ?_
      refine W_ret ?_
      refine ret1 (v := .string _) rfl rfl ?_
      refine ⟨?_, Ch.au⟩
      (try simp only [decide_eq_true_eq, decide_eq_false_iff_not, Bool.not_eq_true', Bool.not_eq_false', ne_eq] at *)
      unfold linT
      first
      | (rw [if_pos (by assumption)]; done)
      | (rw [if_neg (by simp_all), if_pos (by assumption)]; done)
      | (rw [if_neg (by simp_all), if_neg (by simp_all)]; done)
    · refine W_skip ?_
      refine W_seq ?_
      refine W_region ?_
      refine L_r (r_fieldb Tryz.underlying47 rfl (show _ = some 1 from rfl) rfl rfl (show _ = 0 from rfl)) ?_
      refine L_r (r_lb rfl rfl) ?_
      refine L_r (r_adds rfl rfl (by first | omega | (simp only [ByteArray.size_append, sb_size]; omega) | (simp only [ByteArray.size_append]; omega))) ?_
      refine L_r (r_as rfl) ?_
      refine L_nil ?_
      refine W_ret ?_
      refine ret1 (v := .string _) rfl rfl ?_
      refine ⟨?_, Ch.au⟩
      (try simp only [decide_eq_true_eq, decide_eq_false_iff_not, Bool.not_eq_true', Bool.not_eq_false', ne_eq] at *)
      unfold linT
      first
      | (rw [if_pos (by assumption)]; done)
      | (rw [if_neg (by simp_all), if_pos (by assumption)]; done)
      | (rw [if_neg (by simp_all), if_neg (by simp_all)]; done)
end Go.Proofs.YtioonbfinnigpaaGreatDoor

