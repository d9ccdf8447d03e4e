/- A number's digits, and a text, by the document; walked. -/
import Derived.Test.YtioonbfinnigpaaDoorRef04b
import Derived.Test.YtioonbfinnigpaaDoorCode9
namespace Go.Proofs.YtioonbfinnigpaaDoor
open Go Go.RowKit
set_option linter.unusedVariables false
set_option linter.unusedSimpArgs false
set_option maxRecDepth 100000
def dgB (v : Nat) : UInt8 := UInt8.ofNat (48 + v % 10)
theorem dd_low {v : Nat} (h : v < 10) : Lib.decDigits v = [dgB v] := by
  rw [Lib.decDigits, dif_pos h]; unfold dgB; rw [Nat.mod_eq_of_lt h]
theorem dd_high {v : Nat} (h : ¬ v < 10) : Lib.decDigits v = Lib.decDigits (v / 10) ++ [dgB v] := by rw [Lib.decDigits, dif_neg h]; rfl
/-- Digits that are still to come, ahead of those that are there. -/
def ddA (v : Nat) (s : List UInt8) : List UInt8 := if v = 0 then s else Lib.decDigits v ++ s
theorem dd_step (v : Nat) (s : List UInt8) : Lib.decDigits v ++ s = ddA (v / 10) (dgB v :: s) := by
  unfold ddA
  by_cases h : v < 10
  · rw [if_pos (by omega), dd_low h]; rfl
  · rw [if_neg (by omega), dd_high h]; simp
theorem neg_abs {n : Int} (hn : -9223372036854775808 ≤ n ∧ n ≤ 9223372036854775807) (h : n < 0) : IntKind.u64.wrap (0 - (IntKind.u64.wrap n)) = (n.natAbs : Int) := by simp [IntKind.wrap, IntKind.bits, IntKind.signed]; omega
theorem pos_abs {n : Int} (hn : -9223372036854775808 ≤ n ∧ n ≤ 9223372036854775807) (h : ¬ n < 0) : IntKind.u64.wrap n = (n.natAbs : Int) := by simp [IntKind.wrap, IntKind.bits, IntKind.signed]; omega
theorem dg_meas {s : List UInt8} {v m : Nat} {c : UInt8} (h : s = [] ∨ 0 < v) (hvm : v ≤ m) : (if c :: s = [] then m + 2 else v / 10) < if s = [] then m + 2 else v := by
  rw [if_neg (by simp)]
  split
  · omega
  · rename_i hs
    have : 0 < v := h.resolve_left hs
    omega
theorem rdigits_walk (n : Int) (w0 : World) (hn : -9223372036854775808 ≤ n ∧ n ≤ 9223372036854775807) : Does Tryd.prog 41 #[.int .i64 n] w0 (fun r w' => r = .string (sb (Lib.itoa n)) ∧ Nw w0 w') := by
  have hml := digits_len n.natAbs (by omega)
  have h45 : ({ data := #[45] } : ByteArray).size = 1 := rfl
  refine fn_of (n := 32) (args := [.int .i64 n]) Tryd.func41 rfl rfl rfl ?_
  refine W_seq ?_
  refine W_region ?_
  refine L_r (r_as rfl) ?_
  refine L_nil ?_
  refine W_seq ?_
  refine W_region ?_
  refine L_r (r_mi rfl) ?_
  refine L_r (r_conv Tryd.underlying2 Tryd.underlying61 rfl (by first | exact wr_u64 (by omega) | rfl)) ?_
  refine L_r (r_ai rfl) ?_
  refine L_nil ?_
  refine W_seq ?_
  refine W_region ?_
  refine L_r (r_as rfl) ?_
  refine L_nil ?_
  refine W_seq ?_
  refine W_seq ?_
  refine W_region ?_
  refine L_r (r_mi rfl) ?_
  refine L_r (r_lss rfl rfl) ?_
  refine L_nil ?_
  refine W_endF [0, 4] (fun f W => f 3 = .int .u64 (n.natAbs : Int) ∧ (Nw w0 W)) ?_ ?_
  · refine W_if rfl (fun h8 => ?_) (fun h8 => ?_)
    · refine W_region ?_
      refine L_r (r_mi rfl) ?_
      refine L_r (r_neg rfl (by first | exact wr_u64 (by omega) | rfl)) ?_
      refine L_r (r_ai rfl) ?_
      refine L_nil ?_
      refine ⟨⟨fx2, fx2, trivial⟩, (by refine congrArg (Value.int .u64) ?_; first | exact neg_abs hn (by assumption) | exact pos_abs hn (by assumption)), ?_⟩
      (exact Ch.au)
    · refine W_skip ?_
      refine ⟨⟨fx2, fx2, trivial⟩, (by refine congrArg (Value.int .u64) ?_; first | exact neg_abs hn (by assumption) | exact pos_abs hn (by assumption)), ?_⟩
      (exact Ch.au)
  rintro gct8 w1 ⟨hf3, hCt8⟩
  refine W_as 3 hf3 rfl ?_
  clear hf3
  have hz8 := hCt8.size
  obtain ⟨m, hm⟩ : ∃ m, m = n.natAbs := ⟨_, rfl⟩
  rw [← hm] at hml ⊢
  refine W_seq ?_
  refine W_block ?_
  refine W_loopF [0] (fun mz_ f W => ∃ (s : List UInt8) (v : Nat), f 4 = .string (sb s) ∧ f 3 = .int .u64 (v : Int) ∧ ((s = [] → v = m) ∧ (s ≠ [] → Lib.decDigits m = ddA v s) ∧ v ≤ m ∧ s.length ≤ 20 ∧ Nw w0 W) ∧ mz_ = if s = [] then m + 2 else v) ?_ ?_
  · refine ⟨_, [], m, rfl, rfl, ?_, rfl⟩
    exact ⟨fun _ => rfl, fun h => absurd rfl h, by omega, by decide, Ch.au⟩
  rintro m0 g0 w2 ⟨s, v, hf4, hf3, hR0, rfl⟩
  refine W_as 4 hf4 rfl ?_
  refine W_as 3 hf3 rfl ?_
  clear hf4 hf3
  obtain ⟨h1, h2, hvm, hsl, hnw⟩ := hR0
  have hz := hnw.size
  have hse : sb s = { data := #[] } ↔ s = [] := by
    constructor
    · intro h; have h2 : sb s = sb [] := h; exact sb_inj.1 h2
    · intro h; rw [h]; rfl
  have hgo : Lib.decDigits m = ddA (v / 10) (dgB v :: s) ∨ (s ≠ [] ∧ v = 0) := by
    by_cases hs : s = []
    · left
      rw [← dd_step, h1 hs, hs]; simp
    · by_cases hv : v = 0
      · exact .inr ⟨hs, hv⟩
      · left
        rw [h2 hs, ← dd_step]
        exact if_neg hv
  have hln : Lib.decDigits m = ddA (v / 10) (dgB v :: s) → s.length + 1 ≤ 20 := by
    intro h
    have := congrArg List.length h
    unfold ddA at this
    split at this
    · rw [List.length_cons] at this; omega
    · rw [List.length_append, List.length_cons] at this; omega
  refine W_seq ?_
  refine W_seq ?_
  refine W_region ?_
  refine L_r (r_ms rfl) ?_
  refine L_r (r_eqls rfl rfl) ?_
  refine L_r (r_mb rfl) ?_
  refine L_case (d := 13) rfl (fun h13 => ?_) (fun h13 => ?_)
  · refine L_ps ?_
    refine L_ps ?_
    refine L_r (r_pt rfl rfl) ?_
    refine L_nil ?_
    refine W_true rfl ?_
    refine W_skip ?_
    refine W_block ?_
    refine W_seq ?_
    refine W_region ?_
    refine L_r (r_mi rfl) ?_
    refine L_r (r_remn rfl rfl (by omega) (by omega)) ?_
    refine L_r (r_add rfl rfl (by first | exact wr_u64 (by omega) | rfl)) ?_
    refine L_r (r_conv Tryd.underlying61 Tryd.underlying5 rfl (by first | exact wr_u8 (by omega) | rfl)) ?_
    refine L_build1 [.int _ _] Tryd.underlying38 rfl rfl rfl (.plain rfl) rfl (by rfl) (by rfl) (by rfl) (fun b21 w3 hb21 hv21 eb3 hs3 c3 => ?_)
    have hB21 : By w3 (.slice (some ⟨b21, 0, none⟩) 1 1) [dgB v] := by
      have e : ([dgB v].map b8) = [.int .u8 (48 + (v : Int) % 10)] := by
        show [Value.int .u8 ((dgB v).toNat : Int)] = _
        unfold dgB
        rw [UInt8.toNat_ofNat']
        congr 2
        omega
      show Sl _ _ 1 1 ([dgB v].map b8)
      rw [e]; exact hv21
    refine L_r (r_bstr Tryd.underlying38 Tryd.underlying5 Tryd.underlying9 (by conv => lhs; whnf) Sl.au) ?_
    refine L_r (r_ms rfl) ?_
    refine L_r (r_adds rfl rfl (by simp only [ByteArray.size_append, sb_size, List.length_cons, List.length_nil]; omega)) ?_
    refine L_r (r_as rfl) ?_
    refine L_nil ?_
    refine W_region ?_
    refine L_r (r_mi rfl) ?_
    refine L_r (r_quon rfl rfl (by omega) (by omega) (by first | exact wr_u64 (by omega) | rfl)) ?_
    refine L_r (r_ai rfl) ?_
    refine L_nil ?_
    refine ⟨⟨fx2, trivial⟩, _, ?_, dgB v :: s, v / 10, (by exact congrArg Value.string ((sb_append [dgB v] s).symm)), (by exact congrArg (Value.int _) (by omega)), ?_, rfl⟩
    · exact dg_meas (by first | exact .inl (hse.1 (by assumption)) | exact .inr (by omega)) hvm
    refine ⟨fun h => absurd h (by simp), fun _ => ?_, by omega, ?_, Ch.au⟩
    · rcases hgo with h | ⟨h, k⟩
      · exact h
      · exfalso
        first | omega | exact h (hse.1 (by assumption))
    · rcases hgo with h | ⟨h, k⟩
      · exact hln h
      · exfalso
        first | omega | exact h (hse.1 (by assumption))
  · refine L_g (r_mi rfl) ?_
    refine L_g (r_gtr rfl rfl) ?_
    refine L_r (r_pf rfl rfl) ?_
    refine L_nil ?_
    refine W_if rfl (fun h16 => ?_) (fun h16 => ?_)
    · refine W_skip ?_
      refine W_block ?_
      refine W_seq ?_
      refine W_region ?_
      refine L_r (r_mi rfl) ?_
      refine L_r (r_remn rfl rfl (by omega) (by omega)) ?_
      refine L_r (r_add rfl rfl (by first | exact wr_u64 (by omega) | rfl)) ?_
      refine L_r (r_conv Tryd.underlying61 Tryd.underlying5 rfl (by first | exact wr_u8 (by omega) | rfl)) ?_
      refine L_build1 [.int _ _] Tryd.underlying38 rfl rfl rfl (.plain rfl) rfl (by rfl) (by rfl) (by rfl) (fun b21 w4 hb21 hv21 eb4 hs4 c4 => ?_)
      have hB21 : By w4 (.slice (some ⟨b21, 0, none⟩) 1 1) [dgB v] := by
        have e : ([dgB v].map b8) = [.int .u8 (48 + (v : Int) % 10)] := by
          show [Value.int .u8 ((dgB v).toNat : Int)] = _
          unfold dgB
          rw [UInt8.toNat_ofNat']
          congr 2
          omega
        show Sl _ _ 1 1 ([dgB v].map b8)
        rw [e]; exact hv21
      refine L_r (r_bstr Tryd.underlying38 Tryd.underlying5 Tryd.underlying9 (by conv => lhs; whnf) Sl.au) ?_
      refine L_r (r_ms rfl) ?_
      refine L_r (r_adds rfl rfl (by simp only [ByteArray.size_append, sb_size, List.length_cons, List.length_nil]; omega)) ?_
      refine L_r (r_as rfl) ?_
      refine L_nil ?_
      refine W_region ?_
      refine L_r (r_mi rfl) ?_
      refine L_r (r_quon rfl rfl (by omega) (by omega) (by first | exact wr_u64 (by omega) | rfl)) ?_
      refine L_r (r_ai rfl) ?_
      refine L_nil ?_
      refine ⟨⟨fx2, trivial⟩, _, ?_, dgB v :: s, v / 10, (by exact congrArg Value.string ((sb_append [dgB v] s).symm)), (by exact congrArg (Value.int _) (by omega)), ?_, rfl⟩
      · exact dg_meas (by first | exact .inl (hse.1 (by assumption)) | exact .inr (by omega)) hvm
      refine ⟨fun h => absurd h (by simp), fun _ => ?_, by omega, ?_, Ch.au⟩
      · rcases hgo with h | ⟨h, k⟩
        · exact h
        · exfalso
          first | omega | exact h (hse.1 (by assumption))
      · rcases hgo with h | ⟨h, k⟩
        · exact hln h
        · exfalso
          first | omega | exact h (hse.1 (by assumption))
    · refine W_exit ?_
      repeat (first | refine blk_hit ?_ | refine blk_miss rfl ?_)
      refine W_seq ?_
      refine W_seq ?_
      refine W_region ?_
      refine L_r (r_mi rfl) ?_
      refine L_r (r_lss rfl rfl) ?_
      refine L_nil ?_
      refine W_if rfl (fun h28 => ?_) (fun h28 => ?_)
      · refine W_seq ?_
        refine W_region ?_
        refine L_r (r_ms rfl) ?_
        refine L_r (r_adds rfl rfl (by simp only [ByteArray.size_append, sb_size, List.length_cons, List.length_nil]; omega)) ?_
        refine L_r (r_as rfl) ?_
        refine L_nil ?_
        refine W_ret ?_
        refine ret1 (v := .string _) rfl rfl ?_
        refine ⟨?_, Ch.au⟩
        have hs : s ≠ [] := fun h => h13 (hse.2 h)
        have hd := h2 hs
        rw [ddA, if_pos (by omega), hm] at hd
        unfold Lib.itoa
        first
        | (rw [if_pos (by assumption), hd]; exact congrArg Value.string (sb_append [45] s).symm)
        | (rw [if_neg (by assumption), show n.toNat = n.natAbs by omega, hd]; done)
      · refine W_skip ?_
        refine W_seq ?_
        refine W_region ?_
        refine L_r (r_ms rfl) ?_
        refine L_r (r_as rfl) ?_
        refine L_nil ?_
        refine W_ret ?_
        refine ret1 (v := .string _) rfl rfl ?_
        refine ⟨?_, Ch.au⟩
        have hs : s ≠ [] := fun h => h13 (hse.2 h)
        have hd := h2 hs
        rw [ddA, if_pos (by omega), hm] at hd
        unfold Lib.itoa
        first
        | (rw [if_pos (by assumption), hd]; exact congrArg Value.string (sb_append [45] s).symm)
        | (rw [if_neg (by assumption), show n.toNat = n.natAbs by omega, hd]; done)
theorem rt_lin (x : Ins) : linF x = if rtI (takesF x.op) = 1 then x.op ++ (spB ++ sb (Lib.itoa x.n)) ++ nlB else if rtI (takesF x.op) = 2 then x.op ++ (spB ++ x.s) ++ nlB else if rtI (takesF x.op) = 0 then x.op ++ nlB else linF x := by
  unfold linF
  generalize takesF x.op = t
  obtain ⟨ta, tb, tc⟩ := t
  unfold linT rtI
  cases tc <;> cases ta <;> cases tb <;> simp [ByteArray.append_assoc]
theorem ok_rt {x : Ins} (h : checkI x = 0) : 0 ≤ rtI (takesF x.op) ∧ rtI (takesF x.op) ≤ 2 := by
  constructor
  · rcases Int.lt_or_le (rtI (takesF x.op)) 0 with h1 | h1
    · rw [check_r, if_pos h1] at h; exact absurd h (by decide)
    · exact h1
  · unfold rtI; split
    · omega
    · split
      · omega
      · split <;> omega
theorem rshow04_walk (v : Value) (z : List Ins) (w0 : World) (hv : Sl w0 v 3 z.length (cellsI z)) (hl : z.length ≤ 10000) (hs : ∀ x ∈ z, insR x) (hok : ∀ x ∈ z, checkI x = 0) : Does Tryd.prog 20 #[v] w0 (fun r w' => r = .string (showB z { data := #[] }) ∧ Nw w0 w') := by
  have hsp : ({ data := #[32] } : ByteArray).size = 1 := rfl
  have hnl : ({ data := #[10] } : ByteArray).size = 1 := rfl
  have h0s : ({ data := #[] } : ByteArray).size = 0 := rfl
  refine fn_of (n := 48) (args := [v]) Tryd.func20 rfl rfl rfl ?_
  refine W_seq ?_
  refine W_region ?_
  refine L_r (r_as rfl) ?_
  refine L_nil ?_
  refine W_seq ?_
  refine W_region ?_
  refine L_r (r_as rfl) ?_
  refine L_nil ?_
  refine W_seq ?_
  refine W_seq ?_
  refine W_region ?_
  refine L_r (r_ai rfl) ?_
  refine L_nil ?_
  refine W_block ?_
  refine W_loopF [0] (fun mz_ f W => ∃ (i : Nat) (s : ByteArray), f 4 = .int .i64 i ∧ f 3 = .string s ∧ (i ≤ z.length ∧ s = showB (z.take i) { data := #[] } ∧ Nw w0 W) ∧ mz_ = z.length - i) ?_ ?_
  · refine ⟨_, 0, { data := #[] }, rfl, rfl, ?_, rfl⟩
    exact ⟨by omega, rfl, Ch.au⟩
  rintro m0 g0 w1 ⟨i, s, hf4, hf3, hR0, rfl⟩
  refine W_as 4 hf4 rfl ?_
  refine W_as 3 hf3 rfl ?_
  clear hf4 hf3
  obtain ⟨hi, hsb, hnw⟩ := hR0
  have hz := hnw.size
  have hzs := showB_size (z.take i) { data := #[] } (fun x hx => hs x (List.mem_of_mem_take hx))
  rw [← hsb, List.length_take] at hzs
  refine W_seq ?_
  refine W_seq ?_
  refine W_region ?_
  refine L_r (r_mi rfl) ?_
  refine L_r (r_mv) ?_
  refine L_r (r_lenSl Tryd.underlying25 (by conv => lhs; whnf) Sl.au) ?_
  refine L_r (r_lss rfl rfl) ?_
  refine L_nil ?_
  refine W_if rfl (fun h8 => ?_) (fun h8 => ?_)
  · have hil : i < z.length := by omega
    have hrow := cellsI_row z i hil
    have hsx := hs z[i] (List.getElem_mem _)
    have hkx := ok_rt (hok z[i] (List.getElem_mem _))
    obtain ⟨x, hx⟩ : ∃ x, x = z[i] := ⟨_, rfl⟩
    rw [← hx] at hrow hsx hkx
    have hls := linF_size hsx.1
    have hsx2 := hsx.2
    have hil2 := itoa_len hsx.1
    have htk := rtakes_walk x.op
    have hlx := rt_lin x
    generalize rtI (takesF x.op) = r at htk hlx hkx
    refine W_skip ?_
    refine W_seq ?_
    refine W_block ?_
    refine W_seq ?_
    refine W_region ?_
    refine L_r (r_ms rfl) ?_
    refine L_r (r_mv) ?_
    refine L_r (r_mi rfl) ?_
    refine L_r (r_ix Tryd.underlying25 (show _ = some 3 from rfl) (by conv => lhs; whnf) rfl Sl.au) ?_
    refine L_r (r_fieldSl Tryd.underlying23 rfl (show _ = some 1 from rfl) rfl (show _ = 0 from rfl) (Nat.add_zero _) rfl) ?_
    refine L_r (r_loadSl rfl rfl Sl.au (by first | exact hrow 0 _ rfl | exact hrow 1 _ rfl | exact hrow 2 _ rfl)) ?_
    refine L_r (r_adds rfl rfl (by first | omega | (simp only [ByteArray.size_append, sb_size]; omega))) ?_
    refine L_r (r_as rfl) ?_
    refine L_nil ?_
    refine W_seq ?_
    refine W_seq ?_
    refine W_region ?_
    refine L_r (r_mv) ?_
    refine L_r (r_mi rfl) ?_
    refine L_r (r_ix Tryd.underlying25 (show _ = some 3 from rfl) (by conv => lhs; whnf) rfl Sl.au) ?_
    refine L_r (r_fieldSl Tryd.underlying23 rfl (show _ = some 1 from rfl) rfl (show _ = 0 from rfl) (Nat.add_zero _) rfl) ?_
    refine L_r (r_loadSl rfl rfl Sl.au (by first | exact hrow 0 _ rfl | exact hrow 1 _ rfl | exact hrow 2 _ rfl)) ?_
    refine L_call (.plain rfl) rfl rfl (r_call Tryd.func10 rfl rfl rfl (by rfl)) (htk _) ?_
    rintro v23 w2 ⟨rfl, c2⟩
    have hz2 := c2.size
    refine L_nil ?_
    refine W_block ?_
    refine W_seq ?_
    refine W_region ?_
    refine L_r (r_eql rfl rfl) ?_
    refine L_r (r_ab rfl) ?_
    refine L_nil ?_
    refine W_if rfl (fun h24 => ?_) (fun h24 => ?_)
    · refine W_region ?_
      refine L_r (r_ms rfl) ?_
      refine L_r (r_mv) ?_
      refine L_r (r_mi rfl) ?_
      refine L_r (r_ix Tryd.underlying25 (show _ = some 3 from rfl) (by conv => lhs; whnf) rfl Sl.au) ?_
      refine L_r (r_fieldSl Tryd.underlying23 rfl (show _ = some 1 from rfl) rfl (show _ = 1 from rfl) rfl rfl) ?_
      refine L_r (r_loadSl rfl rfl Sl.au (by first | exact hrow 0 _ rfl | exact hrow 1 _ rfl | exact hrow 2 _ rfl)) ?_
      refine L_call (.plain rfl) rfl rfl (r_call Tryd.func41 rfl rfl rfl (by rfl)) (rdigits_walk x.n _ hsx.1) ?_
      rintro v32 w3 ⟨rfl, c3⟩
      have hz3 := c3.size
      refine L_r (r_adds rfl rfl (by first | omega | (simp only [ByteArray.size_append, sb_size]; omega))) ?_
      refine L_r (r_adds rfl rfl (by first | omega | (simp only [ByteArray.size_append, sb_size]; omega))) ?_
      refine L_r (r_as rfl) ?_
      refine L_nil ?_
      refine W_region ?_
      refine L_r (r_ms rfl) ?_
      refine L_r (r_adds rfl rfl (by first | omega | (simp only [ByteArray.size_append, sb_size]; omega))) ?_
      refine L_r (r_as rfl) ?_
      refine L_nil ?_
      refine W_region ?_
      refine L_r (r_mi rfl) ?_
      refine L_r (r_add rfl rfl (by first | exact wr_i64 (by omega) | rfl)) ?_
      refine L_r (r_ai rfl) ?_
      refine L_nil ?_
      refine ⟨⟨fx2, trivial⟩, _, ?_, i + 1, s ++ linF x, rfl, (by refine congrArg Value.string ?_; rw [hlx]; first | (rw [if_pos (by assumption)]; simp only [← ByteArray.append_assoc]; done) | (rw [if_neg (by assumption), if_pos (by assumption)]; simp only [← ByteArray.append_assoc]; done) | (rw [if_neg (by assumption), if_neg (by assumption), if_pos (by omega)]; simp only [← ByteArray.append_assoc]; done)), ?_, rfl⟩
      · omega
      exact ⟨by omega, by rw [showB_take hil, ← hsb, hx], Ch.au⟩
    · refine W_seq ?_
      refine W_region ?_
      refine L_r (r_eql rfl rfl) ?_
      refine L_r (r_ab rfl) ?_
      refine L_nil ?_
      refine W_if rfl (fun h35 => ?_) (fun h35 => ?_)
      · refine W_region ?_
        refine L_r (r_ms rfl) ?_
        refine L_r (r_mv) ?_
        refine L_r (r_mi rfl) ?_
        refine L_r (r_ix Tryd.underlying25 (show _ = some 3 from rfl) (by conv => lhs; whnf) rfl Sl.au) ?_
        refine L_r (r_fieldSl Tryd.underlying23 rfl (show _ = some 1 from rfl) rfl (show _ = 2 from rfl) rfl rfl) ?_
        refine L_r (r_loadSl rfl rfl Sl.au (by first | exact hrow 0 _ rfl | exact hrow 1 _ rfl | exact hrow 2 _ rfl)) ?_
        refine L_r (r_adds rfl rfl (by first | omega | (simp only [ByteArray.size_append, sb_size]; omega))) ?_
        refine L_r (r_adds rfl rfl (by first | omega | (simp only [ByteArray.size_append, sb_size]; omega))) ?_
        refine L_r (r_as rfl) ?_
        refine L_nil ?_
        refine W_region ?_
        refine L_r (r_ms rfl) ?_
        refine L_r (r_adds rfl rfl (by first | omega | (simp only [ByteArray.size_append, sb_size]; omega))) ?_
        refine L_r (r_as rfl) ?_
        refine L_nil ?_
        refine W_region ?_
        refine L_r (r_mi rfl) ?_
        refine L_r (r_add rfl rfl (by first | exact wr_i64 (by omega) | rfl)) ?_
        refine L_r (r_ai rfl) ?_
        refine L_nil ?_
        refine ⟨⟨fx2, trivial⟩, _, ?_, i + 1, s ++ linF x, rfl, (by refine congrArg Value.string ?_; rw [hlx]; first | (rw [if_pos (by assumption)]; simp only [← ByteArray.append_assoc]; done) | (rw [if_neg (by assumption), if_pos (by assumption)]; simp only [← ByteArray.append_assoc]; done) | (rw [if_neg (by assumption), if_neg (by assumption), if_pos (by omega)]; simp only [← ByteArray.append_assoc]; done)), ?_, rfl⟩
        · omega
        exact ⟨by omega, by rw [showB_take hil, ← hsb, hx], Ch.au⟩
      · refine W_skip ?_
        refine W_region ?_
        refine L_r (r_ms rfl) ?_
        refine L_r (r_adds rfl rfl (by first | omega | (simp only [ByteArray.size_append, sb_size]; omega))) ?_
        refine L_r (r_as rfl) ?_
        refine L_nil ?_
        refine W_region ?_
        refine L_r (r_mi rfl) ?_
        refine L_r (r_add rfl rfl (by first | exact wr_i64 (by omega) | rfl)) ?_
        refine L_r (r_ai rfl) ?_
        refine L_nil ?_
        refine ⟨⟨fx2, trivial⟩, _, ?_, i + 1, s ++ linF x, rfl, (by refine congrArg Value.string ?_; rw [hlx]; first | (rw [if_pos (by assumption)]; simp only [← ByteArray.append_assoc]; done) | (rw [if_neg (by assumption), if_pos (by assumption)]; simp only [← ByteArray.append_assoc]; done) | (rw [if_neg (by assumption), if_neg (by assumption), if_pos (by omega)]; simp only [← ByteArray.append_assoc]; done)), ?_, rfl⟩
        · omega
        exact ⟨by omega, by rw [showB_take hil, ← hsb, hx], Ch.au⟩
  · refine W_exit ?_
    repeat (first | refine blk_hit ?_ | refine blk_miss rfl ?_)
    refine W_seq ?_
    refine W_region ?_
    refine L_r (r_ms rfl) ?_
    refine L_r (r_as rfl) ?_
    refine L_nil ?_
    refine W_ret ?_
    refine ret1 (v := .string _) rfl rfl ?_
    exact ⟨by rw [hsb, List.take_of_length_le (by omega)], Ch.au⟩
end Go.Proofs.YtioonbfinnigpaaDoor

