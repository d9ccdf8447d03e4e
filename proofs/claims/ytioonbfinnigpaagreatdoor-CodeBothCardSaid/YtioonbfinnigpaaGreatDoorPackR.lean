/- The reader: a number, read; walked. -/
import Derived.Test.YtioonbfinnigpaaGreatDoorPackW
namespace Go.Proofs.YtioonbfinnigpaaGreatDoor
open Go Go.RowKit
set_option linter.unusedVariables false
set_option maxRecDepth 100000
set_option linter.unusedSimpArgs false
/-- A number of bytes, from the i-th one on: the error, the number, how many bytes. -/
def numL (i : Nat) : List UInt8 → Int × Nat × Nat
  | [] => (10, 0, 0)
  | c :: t => if i = 9 ∧ 1 < c.toNat then (11, 0, 0) else if c.toNat < 128 then (if c.toNat = 0 ∧ 0 < i then (11, 0, 0) else (0, c.toNat, 1))
    else ((numL (i + 1) t).1, c.toNat % 128 + 128 * (numL (i + 1) t).2.1, (numL (i + 1) t).2.2 + 1)
/-- A reader: its bytes, where it is, its error. -/
structure RdAt (base : Nat) (w : World) (b : Nat) (v : Value) (l : List UInt8) (a : Nat) (e : Int) : Prop where
  bk : Bk w b #[v, .int .i64 (a : Int), .int .i64 e] 53
  hb : base ≤ b
  ow : Ow w base 5 1 v l.length (l.map b8)
  ha : a ≤ l.length
  hl : l.length ≤ 100000000
theorem RdAt.nw {base : Nat} {w w' : World} {b : Nat} {v : Value} {l : List UInt8} {a : Nat} {e : Int} (h : RdAt base w b v l a e) (c : Nw w w') : RdAt base w' b v l a e := ⟨h.bk.ch c not_no, h.hb, h.ow.nw c, h.ha, h.hl⟩
theorem RdAt.nov {base : Nat} {w : World} {b : Nat} {v : Value} {l : List UInt8} {a : Nat} {e : Int} (h : RdAt base w b v l a e) : v.ownBlock ≠ some b := ow_nb h.ow h.bk (by decide)
theorem b8_get (l : List UInt8) (i : Nat) (h : i < l.length) : (l.map b8)[i]? = some (.int .u8 (l[i].toNat : Int)) := by simp [h, b8]
theorem and_127 : ∀ y : Fin 256, y.val &&& 127 = y.val % 128 := by decide +kernel
theorem shl_step (x k : Nat) (hx : x < 18446744073709551616) (h : 2 ^ k * x < 18446744073709551616) :
    IntKind.u64.wrap (IntKind.u64.wrap (x : Int) * 2 ^ k) = ((2 ^ k * x : Nat) : Int) := by
  have e1 : IntKind.u64.wrap (x : Int) = x := by rw [IntKind.wrap_u64]; exact Int.emod_eq_of_lt (by omega) (by omega)
  have e2 : (x : Int) * 2 ^ k = ((2 ^ k * x : Nat) : Int) := by rw [Int.mul_comm]; simp
  rw [e1, e2, IntKind.wrap_u64]
  exact Int.emod_eq_of_lt (by omega) (by omega)
theorem or_step (V i c : Nat) (hV : V < 128 ^ i) (hi : i ≤ 9) (hc : c < 256) (h9 : i = 9 → c ≤ 1) :
    bits .or .u64 (V : Int) (IntKind.u64.wrap (IntKind.u64.wrap (bits .and .u8 (c : Int) 127) * 2 ^ min ((7 : Int) * i).toNat IntKind.u64.bits)) = ((V + 128 ^ i * (c % 128) : Nat) : Int) := by
  have h1 : bits .and .u8 (c : Int) 127 = ((c % 128 : Nat) : Int) := (u8_and_nat c 127 hc (by decide)).trans (by rw [and_127 ⟨c, hc⟩])
  have h2 : min ((7 : Int) * i).toNat IntKind.u64.bits = 7 * i := by show min _ 64 = _; omega
  have h3 : (128 : Nat) ^ i = 2 ^ (7 * i) := by rw [Nat.pow_mul]
  have h4 : 2 ^ (7 * i) * (c % 128) < 18446744073709551616 := by
    by_cases e : i = 9
    · subst e
      have := h9 rfl
      have h5 : c % 128 ≤ 1 := by omega
      calc 2 ^ (7 * 9) * (c % 128) ≤ 2 ^ (7 * 9) * 1 := Nat.mul_le_mul_left _ h5
        _ < 18446744073709551616 := by decide
    · have h5 : 2 ^ (7 * i) ≤ 2 ^ 56 := Nat.pow_le_pow_right (by decide) (by omega)
      calc 2 ^ (7 * i) * (c % 128) ≤ 2 ^ 56 * (c % 128) := Nat.mul_le_mul_right _ h5
        _ ≤ 2 ^ 56 * 127 := Nat.mul_le_mul_left _ (by omega)
        _ < 18446744073709551616 := by decide
  have h6 : V < 18446744073709551616 := by
    have : (128 : Nat) ^ i ≤ 128 ^ 9 := Nat.pow_le_pow_right (by decide) hi
    have h7 : (128 : Nat) ^ 9 < 18446744073709551616 := by decide
    omega
  rw [h1, h2, shl_step _ _ (by omega) h4, u64_or_nat _ _ h6 h4, h3]
  congr 1
  rw [Nat.or_comm, ← Nat.two_pow_add_eq_or_of_lt (by rw [← h3]; exact hV), Nat.add_comm]
theorem numL_step (i : Nat) (c : UInt8) (t : List UInt8) (h1 : ¬ (i = 9 ∧ 1 < c.toNat)) (h2 : ¬ c.toNat < 128) : numL i (c :: t) = ((numL (i + 1) t).1, c.toNat % 128 + 128 * (numL (i + 1) t).2.1, (numL (i + 1) t).2.2 + 1) := by
  rw [numL, if_neg h1, if_neg h2]
section
variable {V i a : Nat} {l : List UInt8} {c : UInt8} {t : List UInt8}
theorem num_end (hN : numL 0 (l.drop a) = ((numL i (l.drop (a + i))).1, V + 128 ^ i * (numL i (l.drop (a + i))).2.1, i + (numL i (l.drop (a + i))).2.2)) (h : l.drop (a + i) = []) : (numL 0 (l.drop a)).1 = 10 := by
  rw [hN, h]; rfl
theorem num_bad9 (hN : numL 0 (l.drop a) = ((numL i (l.drop (a + i))).1, V + 128 ^ i * (numL i (l.drop (a + i))).2.1, i + (numL i (l.drop (a + i))).2.2)) (h : l.drop (a + i) = c :: t) (h1 : i = 9 ∧ 1 < c.toNat) : (numL 0 (l.drop a)).1 = 11 := by
  rw [hN, h, numL, if_pos h1]
theorem num_bad0 (hN : numL 0 (l.drop a) = ((numL i (l.drop (a + i))).1, V + 128 ^ i * (numL i (l.drop (a + i))).2.1, i + (numL i (l.drop (a + i))).2.2)) (h : l.drop (a + i) = c :: t) (h1 : ¬ (i = 9 ∧ 1 < c.toNat)) (h2 : c.toNat < 128) (h3 : c.toNat = 0 ∧ 0 < i) : (numL 0 (l.drop a)).1 = 11 := by
  rw [hN, h, numL, if_neg h1, if_pos h2, if_pos h3]
theorem num_good (hN : numL 0 (l.drop a) = ((numL i (l.drop (a + i))).1, V + 128 ^ i * (numL i (l.drop (a + i))).2.1, i + (numL i (l.drop (a + i))).2.2)) (h : l.drop (a + i) = c :: t) (h1 : ¬ (i = 9 ∧ 1 < c.toNat)) (h2 : c.toNat < 128) (h3 : ¬ (c.toNat = 0 ∧ 0 < i)) : numL 0 (l.drop a) = (0, V + 128 ^ i * (c.toNat % 128), i + 1) := by
  rw [hN, h, numL, if_neg h1, if_pos h2, if_neg h3, Nat.mod_eq_of_lt h2]
theorem num_next (hN : numL 0 (l.drop a) = ((numL i (l.drop (a + i))).1, V + 128 ^ i * (numL i (l.drop (a + i))).2.1, i + (numL i (l.drop (a + i))).2.2)) (h : l.drop (a + i) = c :: l.drop (a + i + 1)) (h1 : ¬ (i = 9 ∧ 1 < c.toNat)) (h2 : ¬ c.toNat < 128) :
    numL 0 (l.drop a) = ((numL (i + 1) (l.drop (a + (i + 1)))).1, V + 128 ^ i * (c.toNat % 128) + 128 ^ (i + 1) * (numL (i + 1) (l.drop (a + (i + 1)))).2.1, i + 1 + (numL (i + 1) (l.drop (a + (i + 1)))).2.2) := by
  rw [hN, h, numL_step i _ _ h1 h2]
  refine Prod.ext rfl (Prod.ext ?_ ?_)
  · show V + 128 ^ i * (c.toNat % 128 + 128 * _) = V + 128 ^ i * (c.toNat % 128) + 128 ^ (i + 1) * _
    rw [Nat.mul_add, Nat.pow_succ, Nat.mul_assoc, ← Nat.add_assoc]; rfl
  · show i + (_ + 1) = i + 1 + _
    rw [Nat.add_comm _ 1, ← Nat.add_assoc]; rfl
theorem num_below (hV : V < 128 ^ i) : V + 128 ^ i * (c.toNat % 128) < 128 ^ (i + 1) := by
  have h1 : 128 ^ i * (c.toNat % 128) ≤ 128 ^ i * 127 := Nat.mul_le_mul_left _ (by omega)
  rw [Nat.pow_succ]; omega
end
set_option maxRecDepth 100000 in
set_option maxHeartbeats 4000000 in
theorem number_walk (base b q : Nat) (v : Value) (l : List UInt8) (a : Nat) (e : Int) (x0 : Int) (w0 : World) (hR : RdAt base w0 b v l a e) (hq : Bk w0 q #[.int .u64 x0] 23) (hb : base ≤ w0.heap.size) : Does Tryz.prog 34 #[.pointer (some ⟨b, 0, none⟩), .pointer (some ⟨q, 0, none⟩)] w0 (fun r w' => ∃ (a' : Nat) (x : Int), r = .int .i64 (numL 0 (l.drop a)).1 ∧ RdAt base w' b v l a' e ∧ Bk w' q #[.int .u64 x] 23 ∧ Ch (fun j => j = b ∨ j = q) w0 w' ∧ ((numL 0 (l.drop a)).1 = 0 → a' = a + (numL 0 (l.drop a)).2.2 ∧ x = (numL 0 (l.drop a)).2.1)) := by
  have hbk := hR.bk
  have ha := hR.ha
  have hl := hR.hl
  have hnv := hR.nov
  have hbq : b ≠ q := Bk.ne hbk hq (by decide)
  have hqv := ow_nb hR.ow hq (by decide)
  have hlb := hbk.lt
  have hlq := hq.lt
  refine fn_of (n := 65) (args := [.pointer (some ⟨b, 0, none⟩), .pointer (some ⟨q, 0, none⟩)]) Tryz.func34 rfl rfl rfl ?_
  refine W_seq ?_
  refine W_region ?_
  refine L_r (r_ai rfl) ?_
  refine L_nil ?_
  refine W_seq ?_
  refine W_region ?_
  refine L_r (r_ai rfl) ?_
  refine L_nil ?_
  refine W_seq ?_
  refine W_seq ?_
  refine W_region ?_
  refine L_r (r_mi rfl) ?_
  refine L_nil ?_
  refine W_block ?_
  refine W_loopF [0, 1] (fun mz_ f W => ∃ (i V : Nat), f 8 = .int .i64 i ∧ f 5 = .int .u64 V ∧ (i ≤ 9 ∧ a + i ≤ l.length ∧ V < 128 ^ i ∧ numL 0 (l.drop a) = ((numL i (l.drop (a + i))).1, V + 128 ^ i * (numL i (l.drop (a + i))).2.1, i + (numL i (l.drop (a + i))).2.2) ∧ Bk W b #[v, .int .i64 ((a + i : Nat) : Int), .int .i64 e] 53 ∧ Ow W base 5 1 v l.length (l.map b8) ∧ Bk W q #[.int .u64 x0] 23 ∧ Ch (fun j => j = b ∨ j = q) w0 W) ∧ mz_ = 10 - i) ?_ ?_
  · refine ⟨_, 0, 0, rfl, rfl, ?_, rfl⟩
    exact ⟨by omega, by omega, by decide, by simp, Bk.au, hR.ow, Bk.au, Ch.au⟩
  rintro m0 g0 w1 ⟨i, V, hf8, hf5, hR0, rfl⟩
  refine W_as 8 hf8 rfl ?_
  refine W_as 5 hf5 rfl ?_
  clear hf8 hf5
  obtain ⟨hi, hai, hV, hN, hbi, hoi, hqi, hci⟩ := hR0
  have hz := hci.size
  have hsl := hoi.sl
  refine W_seq ?_
  refine W_region ?_
  refine L_r (r_lss rfl rfl) ?_
  refine L_nil ?_
  refine W_seq ?_
  refine W_if rfl (fun h9 => ?_) (fun h9 => ?_)
  · refine W_skip ?_
    refine W_seq ?_
    refine W_block ?_
    refine W_seq ?_
    refine W_region ?_
    refine L_r (r_mi rfl) ?_
    refine L_r (r_ai rfl) ?_
    refine L_nil ?_
    refine W_seq ?_
    refine W_seq ?_
    refine W_still (by kernel_rfl) (by kernel_rfl) (fun w2 c2 hs2 => ?_)
    refine H_r (r_mp rfl) ?_
    refine H_r (r_nilCheck rfl) ?_
    refine H_r (r_fieldb Tryz.underlying53 rfl (show _ = some 1 from rfl) rfl rfl (show _ = 1 from rfl)) ?_
    refine H_r (r_lb rfl rfl) ?_
    refine H_r (r_mp rfl) ?_
    refine H_r (r_nilCheck rfl) ?_
    refine H_r (r_fieldb Tryz.underlying53 rfl (show _ = some 1 from rfl) rfl rfl (show _ = 0 from rfl)) ?_
    refine H_r (r_lb rfl rfl) ?_
    refine H_r (r_lenSl Tryz.underlying30 (by conv => lhs; whnf) Sl.au) ?_
    refine H_r (r_geq rfl rfl) ?_
    refine H_nil ?_
    refine W_if rfl (fun h20 => ?_) (fun h20 => ?_)
    · have hend : l.drop (a + i) = [] := List.drop_eq_nil_of_le (by omega)
      refine W_seq ?_
      refine W_region ?_
      refine L_r (r_ai rfl) ?_
      refine L_nil ?_
      refine W_ret ?_
      refine ret1 (v := .int _ _) rfl rfl ?_
      first
      | (exfalso; omega)
      | exact ⟨a + i, x0, congrArg (Value.int .i64) (num_end hN hend).symm, ⟨Bk.au, hR.hb, Ow.au, by omega, hl⟩, Bk.au, Ch.au, fun h => absurd ((num_end hN hend).symm.trans h) (by decide)⟩
      | exact ⟨a + i + 1, x0, congrArg (Value.int .i64) (num_bad9 hN hdr (by omega)).symm, ⟨Bk.au, hR.hb, Ow.au, by omega, hl⟩, Bk.au, Ch.au, fun h => absurd ((num_bad9 hN hdr (by omega)).symm.trans h) (by decide)⟩
      | exact ⟨a + i + 1, x0, congrArg (Value.int .i64) (num_bad0 hN hdr (by omega) (by omega) (by omega)).symm, ⟨Bk.au, hR.hb, Ow.au, by omega, hl⟩, Bk.au, Ch.au, fun h => absurd ((num_bad0 hN hdr (by omega) (by omega) (by omega)).symm.trans h) (by decide)⟩
      | (have hgo := num_good hN hdr (by omega) (by omega) (by omega)
         refine ⟨a + i + 1, bits .or .u64 (V : Int) (IntKind.u64.wrap (IntKind.u64.wrap (bits .and .u8 (l[a + i].toNat : Int) 127) * 2 ^ min ((7 : Int) * i).toNat IntKind.u64.bits)), by rw [hgo], ⟨Bk.au, hR.hb, Ow.au, by omega, hl⟩, Bk.au, Ch.au, fun h => ?_⟩
         rw [hgo]
         exact ⟨rfl, or_step V i l[a + i].toNat hV hi (by omega) (fun e9 => by omega)⟩)
    · have hin : a + i < l.length := by omega
      have hct := UInt8.toNat_lt l[a + i]
      have hdr : l.drop (a + i) = l[a + i] :: l.drop (a + i + 1) := List.drop_eq_getElem_cons hin
      refine W_skip ?_
      refine W_seq ?_
      refine W_still (by kernel_rfl) (by kernel_rfl) (fun w3 c3 hs3 => ?_)
      refine H_r (r_mp rfl) ?_
      refine H_r (r_nilCheck rfl) ?_
      refine H_r (r_fieldb Tryz.underlying53 rfl (show _ = some 1 from rfl) rfl rfl (show _ = 0 from rfl)) ?_
      refine H_r (r_lb rfl rfl) ?_
      refine H_r (r_mp rfl) ?_
      refine H_r (r_nilCheck rfl) ?_
      refine H_r (r_fieldb Tryz.underlying53 rfl (show _ = some 1 from rfl) rfl rfl (show _ = 1 from rfl)) ?_
      refine H_r (r_lb rfl rfl) ?_
      refine H_r (r_ix Tryz.underlying30 (show _ = some 1 from rfl) (by conv => lhs; whnf) rfl Sl.au) ?_
      refine H_r (r_loadSl rfl rfl Sl.au (by first | assumption | exact b8_get _ _ (by omega) | (conv => lhs; simp only [List.getElem?_toArray, List.getElem?_cons_succ, List.getElem?_cons_zero]))) ?_
      refine H_r (r_ai rfl) ?_
      refine H_nil ?_
      refine W_seq ?_
      refine W_region ?_
      refine L_r (r_mp rfl) ?_
      refine L_r (r_nilCheck rfl) ?_
      refine L_r (r_fieldb Tryz.underlying53 rfl (show _ = some 1 from rfl) rfl rfl (show _ = 1 from rfl)) ?_
      refine L_r (r_lb rfl rfl) ?_
      refine L_r (r_add rfl rfl (by first | exact wr_i64 (by omega) | rfl)) ?_
      refine L_r (r_nilCheck rfl) ?_
      refine L_r (r_fieldb Tryz.underlying53 rfl (show _ = some 1 from rfl) rfl rfl (show _ = 1 from rfl)) ?_
      refine L_set (.plain rfl) rfl Bk.au (r_store (v := .int _ _) rfl rfl rfl rfl Bk.au (by first | decide | (simp; done) | omega)) (fun w4 hb4 hs4 c4 => ?_)
      try simp only [List.setIfInBounds_toArray, List.set_cons_zero, List.set_cons_succ] at hb4
      refine L_nil ?_
      refine W_seq ?_
      refine W_seq ?_
      refine W_region ?_
      refine L_r (r_mi rfl) ?_
      refine L_r (r_eql rfl rfl) ?_
      refine L_r (r_mb rfl) ?_
      refine L_case (d := 40) rfl (fun h40 => ?_) (fun h40 => ?_)
      · refine L_g (r_mi rfl) ?_
        refine L_g (r_gtr rfl rfl) ?_
        refine L_r (r_pt rfl rfl) ?_
        refine L_nil ?_
        refine W_if rfl (fun h43 => ?_) (fun h43 => ?_)
        · refine W_seq ?_
          refine W_region ?_
          refine L_r (r_ai rfl) ?_
          refine L_nil ?_
          refine W_ret ?_
          refine ret1 (v := .int _ _) rfl rfl ?_
          first
          | (exfalso; omega)
          | exact ⟨a + i, x0, congrArg (Value.int .i64) (num_end hN hend).symm, ⟨Bk.au, hR.hb, Ow.au, by omega, hl⟩, Bk.au, Ch.au, fun h => absurd ((num_end hN hend).symm.trans h) (by decide)⟩
          | exact ⟨a + i + 1, x0, congrArg (Value.int .i64) (num_bad9 hN hdr (by omega)).symm, ⟨Bk.au, hR.hb, Ow.au, by omega, hl⟩, Bk.au, Ch.au, fun h => absurd ((num_bad9 hN hdr (by omega)).symm.trans h) (by decide)⟩
          | exact ⟨a + i + 1, x0, congrArg (Value.int .i64) (num_bad0 hN hdr (by omega) (by omega) (by omega)).symm, ⟨Bk.au, hR.hb, Ow.au, by omega, hl⟩, Bk.au, Ch.au, fun h => absurd ((num_bad0 hN hdr (by omega) (by omega) (by omega)).symm.trans h) (by decide)⟩
          | (have hgo := num_good hN hdr (by omega) (by omega) (by omega)
             refine ⟨a + i + 1, bits .or .u64 (V : Int) (IntKind.u64.wrap (IntKind.u64.wrap (bits .and .u8 (l[a + i].toNat : Int) 127) * 2 ^ min ((7 : Int) * i).toNat IntKind.u64.bits)), by rw [hgo], ⟨Bk.au, hR.hb, Ow.au, by omega, hl⟩, Bk.au, Ch.au, fun h => ?_⟩
             rw [hgo]
             exact ⟨rfl, or_step V i l[a + i].toNat hV hi (by omega) (fun e9 => by omega)⟩)
        · refine W_skip ?_
          refine W_seq ?_
          refine W_region ?_
          refine L_r (r_mi rfl) ?_
          refine L_r (r_mi rfl) ?_
          refine L_r (r_and rfl rfl) ?_
          refine L_r (r_conv Tryz.underlying5 Tryz.underlying23 rfl (by first | exact wr_u64 (by omega) | rfl)) ?_
          refine L_r (r_mi rfl) ?_
          refine L_r (r_mul rfl rfl (by first | exact wr_i64 (by omega) | rfl)) ?_
          refine L_r (r_conv Tryz.underlying3 Tryz.underlying90 rfl (by first | exact wr_u64 (by omega) | rfl)) ?_
          refine L_r (r_shl rfl rfl (by omega) rfl) ?_
          refine L_r (r_or rfl rfl) ?_
          refine L_r (r_ai rfl) ?_
          refine L_nil ?_
          refine W_seq ?_
          refine W_region ?_
          refine L_r (r_mi rfl) ?_
          refine L_r (r_lss rfl rfl) ?_
          refine L_nil ?_
          refine W_if rfl (fun h54 => ?_) (fun h54 => ?_)
          · refine W_seq ?_
            refine W_seq ?_
            refine W_region ?_
            refine L_r (r_mi rfl) ?_
            refine L_r (r_eql rfl rfl) ?_
            refine L_r (r_mb rfl) ?_
            refine L_case (d := 57) rfl (fun h57 => ?_) (fun h57 => ?_)
            · refine L_g (r_mi rfl) ?_
              refine L_g (r_gtr rfl rfl) ?_
              refine L_r (r_pt rfl rfl) ?_
              refine L_nil ?_
              refine W_if rfl (fun h60 => ?_) (fun h60 => ?_)
              · refine W_seq ?_
                refine W_region ?_
                refine L_r (r_ai rfl) ?_
                refine L_nil ?_
                refine W_ret ?_
                refine ret1 (v := .int _ _) rfl rfl ?_
                first
                | (exfalso; omega)
                | exact ⟨a + i, x0, congrArg (Value.int .i64) (num_end hN hend).symm, ⟨Bk.au, hR.hb, Ow.au, by omega, hl⟩, Bk.au, Ch.au, fun h => absurd ((num_end hN hend).symm.trans h) (by decide)⟩
                | exact ⟨a + i + 1, x0, congrArg (Value.int .i64) (num_bad9 hN hdr (by omega)).symm, ⟨Bk.au, hR.hb, Ow.au, by omega, hl⟩, Bk.au, Ch.au, fun h => absurd ((num_bad9 hN hdr (by omega)).symm.trans h) (by decide)⟩
                | exact ⟨a + i + 1, x0, congrArg (Value.int .i64) (num_bad0 hN hdr (by omega) (by omega) (by omega)).symm, ⟨Bk.au, hR.hb, Ow.au, by omega, hl⟩, Bk.au, Ch.au, fun h => absurd ((num_bad0 hN hdr (by omega) (by omega) (by omega)).symm.trans h) (by decide)⟩
                | (have hgo := num_good hN hdr (by omega) (by omega) (by omega)
                   refine ⟨a + i + 1, bits .or .u64 (V : Int) (IntKind.u64.wrap (IntKind.u64.wrap (bits .and .u8 (l[a + i].toNat : Int) 127) * 2 ^ min ((7 : Int) * i).toNat IntKind.u64.bits)), by rw [hgo], ⟨Bk.au, hR.hb, Ow.au, by omega, hl⟩, Bk.au, Ch.au, fun h => ?_⟩
                   rw [hgo]
                   exact ⟨rfl, or_step V i l[a + i].toNat hV hi (by omega) (fun e9 => by omega)⟩)
              · refine W_skip ?_
                refine W_seq ?_
                refine W_region ?_
                refine L_r (r_mp rfl) ?_
                refine L_r (r_mi rfl) ?_
                refine L_r (r_nilCheck rfl) ?_
                refine L_set (.plain rfl) rfl Bk.au (r_store (v := .int _ _) rfl rfl rfl rfl Bk.au (by first | decide | (simp; done) | omega)) (fun w5 hb5 hs5 c5 => ?_)
                try simp only [List.setIfInBounds_toArray, List.set_cons_zero, List.set_cons_succ] at hb5
                refine L_nil ?_
                refine W_seq ?_
                refine W_region ?_
                refine L_r (r_ai rfl) ?_
                refine L_nil ?_
                refine W_ret ?_
                refine ret1 (v := .int _ _) rfl rfl ?_
                first
                | (exfalso; omega)
                | exact ⟨a + i, x0, congrArg (Value.int .i64) (num_end hN hend).symm, ⟨Bk.au, hR.hb, Ow.au, by omega, hl⟩, Bk.au, Ch.au, fun h => absurd ((num_end hN hend).symm.trans h) (by decide)⟩
                | exact ⟨a + i + 1, x0, congrArg (Value.int .i64) (num_bad9 hN hdr (by omega)).symm, ⟨Bk.au, hR.hb, Ow.au, by omega, hl⟩, Bk.au, Ch.au, fun h => absurd ((num_bad9 hN hdr (by omega)).symm.trans h) (by decide)⟩
                | exact ⟨a + i + 1, x0, congrArg (Value.int .i64) (num_bad0 hN hdr (by omega) (by omega) (by omega)).symm, ⟨Bk.au, hR.hb, Ow.au, by omega, hl⟩, Bk.au, Ch.au, fun h => absurd ((num_bad0 hN hdr (by omega) (by omega) (by omega)).symm.trans h) (by decide)⟩
                | (have hgo := num_good hN hdr (by omega) (by omega) (by omega)
                   refine ⟨a + i + 1, bits .or .u64 (V : Int) (IntKind.u64.wrap (IntKind.u64.wrap (bits .and .u8 (l[a + i].toNat : Int) 127) * 2 ^ min ((7 : Int) * i).toNat IntKind.u64.bits)), by rw [hgo], ⟨Bk.au, hR.hb, Ow.au, by omega, hl⟩, Bk.au, Ch.au, fun h => ?_⟩
                   rw [hgo]
                   exact ⟨rfl, or_step V i l[a + i].toNat hV hi (by omega) (fun e9 => by omega)⟩)
            · refine L_ps ?_
              refine L_ps ?_
              refine L_r (r_pf rfl rfl) ?_
              refine L_nil ?_
              refine W_false rfl ?_
              refine W_skip ?_
              refine W_seq ?_
              refine W_region ?_
              refine L_r (r_mp rfl) ?_
              refine L_r (r_mi rfl) ?_
              refine L_r (r_nilCheck rfl) ?_
              refine L_set (.plain rfl) rfl Bk.au (r_store (v := .int _ _) rfl rfl rfl rfl Bk.au (by first | decide | (simp; done) | omega)) (fun w6 hb6 hs6 c6 => ?_)
              try simp only [List.setIfInBounds_toArray, List.set_cons_zero, List.set_cons_succ] at hb6
              refine L_nil ?_
              refine W_seq ?_
              refine W_region ?_
              refine L_r (r_ai rfl) ?_
              refine L_nil ?_
              refine W_ret ?_
              refine ret1 (v := .int _ _) rfl rfl ?_
              first
              | (exfalso; omega)
              | exact ⟨a + i, x0, congrArg (Value.int .i64) (num_end hN hend).symm, ⟨Bk.au, hR.hb, Ow.au, by omega, hl⟩, Bk.au, Ch.au, fun h => absurd ((num_end hN hend).symm.trans h) (by decide)⟩
              | exact ⟨a + i + 1, x0, congrArg (Value.int .i64) (num_bad9 hN hdr (by omega)).symm, ⟨Bk.au, hR.hb, Ow.au, by omega, hl⟩, Bk.au, Ch.au, fun h => absurd ((num_bad9 hN hdr (by omega)).symm.trans h) (by decide)⟩
              | exact ⟨a + i + 1, x0, congrArg (Value.int .i64) (num_bad0 hN hdr (by omega) (by omega) (by omega)).symm, ⟨Bk.au, hR.hb, Ow.au, by omega, hl⟩, Bk.au, Ch.au, fun h => absurd ((num_bad0 hN hdr (by omega) (by omega) (by omega)).symm.trans h) (by decide)⟩
              | (have hgo := num_good hN hdr (by omega) (by omega) (by omega)
                 refine ⟨a + i + 1, bits .or .u64 (V : Int) (IntKind.u64.wrap (IntKind.u64.wrap (bits .and .u8 (l[a + i].toNat : Int) 127) * 2 ^ min ((7 : Int) * i).toNat IntKind.u64.bits)), by rw [hgo], ⟨Bk.au, hR.hb, Ow.au, by omega, hl⟩, Bk.au, Ch.au, fun h => ?_⟩
                 rw [hgo]
                 exact ⟨rfl, or_step V i l[a + i].toNat hV hi (by omega) (fun e9 => by omega)⟩)
          · refine W_skip ?_
            refine W_region ?_
            refine L_r (r_add rfl rfl (by first | exact wr_i64 (by omega) | rfl)) ?_
            refine L_r (r_mi rfl) ?_
            refine L_nil ?_
            refine ⟨⟨fx2, fx2, trivial⟩, _, ?_, i + 1, V + 128 ^ i * (l[a + i].toNat % 128), rfl, (by exact congrArg (Value.int _) (or_step V i l[a + i].toNat hV hi (UInt8.toNat_lt _) (fun e9 => by omega))), ?_, rfl⟩
            · omega
            have h9a : ¬ (i = 9 ∧ 1 < l[a + i].toNat) := by omega
            exact ⟨by omega, by omega, num_below hV, num_next hN hdr h9a (by omega), Bk.au, Ow.au, Bk.au, Ch.au⟩
      · refine L_ps ?_
        refine L_ps ?_
        refine L_r (r_pf rfl rfl) ?_
        refine L_nil ?_
        refine W_false rfl ?_
        refine W_skip ?_
        refine W_seq ?_
        refine W_region ?_
        refine L_r (r_mi rfl) ?_
        refine L_r (r_mi rfl) ?_
        refine L_r (r_and rfl rfl) ?_
        refine L_r (r_conv Tryz.underlying5 Tryz.underlying23 rfl (by first | exact wr_u64 (by omega) | rfl)) ?_
        refine L_r (r_mi rfl) ?_
        refine L_r (r_mul rfl rfl (by first | exact wr_i64 (by omega) | rfl)) ?_
        refine L_r (r_conv Tryz.underlying3 Tryz.underlying90 rfl (by first | exact wr_u64 (by omega) | rfl)) ?_
        refine L_r (r_shl rfl rfl (by omega) rfl) ?_
        refine L_r (r_or rfl rfl) ?_
        refine L_r (r_ai rfl) ?_
        refine L_nil ?_
        refine W_seq ?_
        refine W_region ?_
        refine L_r (r_mi rfl) ?_
        refine L_r (r_lss rfl rfl) ?_
        refine L_nil ?_
        refine W_if rfl (fun h54 => ?_) (fun h54 => ?_)
        · refine W_seq ?_
          refine W_seq ?_
          refine W_region ?_
          refine L_r (r_mi rfl) ?_
          refine L_r (r_eql rfl rfl) ?_
          refine L_r (r_mb rfl) ?_
          refine L_case (d := 57) rfl (fun h57 => ?_) (fun h57 => ?_)
          · refine L_g (r_mi rfl) ?_
            refine L_g (r_gtr rfl rfl) ?_
            refine L_r (r_pt rfl rfl) ?_
            refine L_nil ?_
            refine W_if rfl (fun h60 => ?_) (fun h60 => ?_)
            · refine W_seq ?_
              refine W_region ?_
              refine L_r (r_ai rfl) ?_
              refine L_nil ?_
              refine W_ret ?_
              refine ret1 (v := .int _ _) rfl rfl ?_
              first
              | (exfalso; omega)
              | exact ⟨a + i, x0, congrArg (Value.int .i64) (num_end hN hend).symm, ⟨Bk.au, hR.hb, Ow.au, by omega, hl⟩, Bk.au, Ch.au, fun h => absurd ((num_end hN hend).symm.trans h) (by decide)⟩
              | exact ⟨a + i + 1, x0, congrArg (Value.int .i64) (num_bad9 hN hdr (by omega)).symm, ⟨Bk.au, hR.hb, Ow.au, by omega, hl⟩, Bk.au, Ch.au, fun h => absurd ((num_bad9 hN hdr (by omega)).symm.trans h) (by decide)⟩
              | exact ⟨a + i + 1, x0, congrArg (Value.int .i64) (num_bad0 hN hdr (by omega) (by omega) (by omega)).symm, ⟨Bk.au, hR.hb, Ow.au, by omega, hl⟩, Bk.au, Ch.au, fun h => absurd ((num_bad0 hN hdr (by omega) (by omega) (by omega)).symm.trans h) (by decide)⟩
              | (have hgo := num_good hN hdr (by omega) (by omega) (by omega)
                 refine ⟨a + i + 1, bits .or .u64 (V : Int) (IntKind.u64.wrap (IntKind.u64.wrap (bits .and .u8 (l[a + i].toNat : Int) 127) * 2 ^ min ((7 : Int) * i).toNat IntKind.u64.bits)), by rw [hgo], ⟨Bk.au, hR.hb, Ow.au, by omega, hl⟩, Bk.au, Ch.au, fun h => ?_⟩
                 rw [hgo]
                 exact ⟨rfl, or_step V i l[a + i].toNat hV hi (by omega) (fun e9 => by omega)⟩)
            · refine W_skip ?_
              refine W_seq ?_
              refine W_region ?_
              refine L_r (r_mp rfl) ?_
              refine L_r (r_mi rfl) ?_
              refine L_r (r_nilCheck rfl) ?_
              refine L_set (.plain rfl) rfl Bk.au (r_store (v := .int _ _) rfl rfl rfl rfl Bk.au (by first | decide | (simp; done) | omega)) (fun w7 hb7 hs7 c7 => ?_)
              try simp only [List.setIfInBounds_toArray, List.set_cons_zero, List.set_cons_succ] at hb7
              refine L_nil ?_
              refine W_seq ?_
              refine W_region ?_
              refine L_r (r_ai rfl) ?_
              refine L_nil ?_
              refine W_ret ?_
              refine ret1 (v := .int _ _) rfl rfl ?_
              first
              | (exfalso; omega)
              | exact ⟨a + i, x0, congrArg (Value.int .i64) (num_end hN hend).symm, ⟨Bk.au, hR.hb, Ow.au, by omega, hl⟩, Bk.au, Ch.au, fun h => absurd ((num_end hN hend).symm.trans h) (by decide)⟩
              | exact ⟨a + i + 1, x0, congrArg (Value.int .i64) (num_bad9 hN hdr (by omega)).symm, ⟨Bk.au, hR.hb, Ow.au, by omega, hl⟩, Bk.au, Ch.au, fun h => absurd ((num_bad9 hN hdr (by omega)).symm.trans h) (by decide)⟩
              | exact ⟨a + i + 1, x0, congrArg (Value.int .i64) (num_bad0 hN hdr (by omega) (by omega) (by omega)).symm, ⟨Bk.au, hR.hb, Ow.au, by omega, hl⟩, Bk.au, Ch.au, fun h => absurd ((num_bad0 hN hdr (by omega) (by omega) (by omega)).symm.trans h) (by decide)⟩
              | (have hgo := num_good hN hdr (by omega) (by omega) (by omega)
                 refine ⟨a + i + 1, bits .or .u64 (V : Int) (IntKind.u64.wrap (IntKind.u64.wrap (bits .and .u8 (l[a + i].toNat : Int) 127) * 2 ^ min ((7 : Int) * i).toNat IntKind.u64.bits)), by rw [hgo], ⟨Bk.au, hR.hb, Ow.au, by omega, hl⟩, Bk.au, Ch.au, fun h => ?_⟩
                 rw [hgo]
                 exact ⟨rfl, or_step V i l[a + i].toNat hV hi (by omega) (fun e9 => by omega)⟩)
          · refine L_ps ?_
            refine L_ps ?_
            refine L_r (r_pf rfl rfl) ?_
            refine L_nil ?_
            refine W_false rfl ?_
            refine W_skip ?_
            refine W_seq ?_
            refine W_region ?_
            refine L_r (r_mp rfl) ?_
            refine L_r (r_mi rfl) ?_
            refine L_r (r_nilCheck rfl) ?_
            refine L_set (.plain rfl) rfl Bk.au (r_store (v := .int _ _) rfl rfl rfl rfl Bk.au (by first | decide | (simp; done) | omega)) (fun w8 hb8 hs8 c8 => ?_)
            try simp only [List.setIfInBounds_toArray, List.set_cons_zero, List.set_cons_succ] at hb8
            refine L_nil ?_
            refine W_seq ?_
            refine W_region ?_
            refine L_r (r_ai rfl) ?_
            refine L_nil ?_
            refine W_ret ?_
            refine ret1 (v := .int _ _) rfl rfl ?_
            first
            | (exfalso; omega)
            | exact ⟨a + i, x0, congrArg (Value.int .i64) (num_end hN hend).symm, ⟨Bk.au, hR.hb, Ow.au, by omega, hl⟩, Bk.au, Ch.au, fun h => absurd ((num_end hN hend).symm.trans h) (by decide)⟩
            | exact ⟨a + i + 1, x0, congrArg (Value.int .i64) (num_bad9 hN hdr (by omega)).symm, ⟨Bk.au, hR.hb, Ow.au, by omega, hl⟩, Bk.au, Ch.au, fun h => absurd ((num_bad9 hN hdr (by omega)).symm.trans h) (by decide)⟩
            | exact ⟨a + i + 1, x0, congrArg (Value.int .i64) (num_bad0 hN hdr (by omega) (by omega) (by omega)).symm, ⟨Bk.au, hR.hb, Ow.au, by omega, hl⟩, Bk.au, Ch.au, fun h => absurd ((num_bad0 hN hdr (by omega) (by omega) (by omega)).symm.trans h) (by decide)⟩
            | (have hgo := num_good hN hdr (by omega) (by omega) (by omega)
               refine ⟨a + i + 1, bits .or .u64 (V : Int) (IntKind.u64.wrap (IntKind.u64.wrap (bits .and .u8 (l[a + i].toNat : Int) 127) * 2 ^ min ((7 : Int) * i).toNat IntKind.u64.bits)), by rw [hgo], ⟨Bk.au, hR.hb, Ow.au, by omega, hl⟩, Bk.au, Ch.au, fun h => ?_⟩
               rw [hgo]
               exact ⟨rfl, or_step V i l[a + i].toNat hV hi (by omega) (fun e9 => by omega)⟩)
        · refine W_skip ?_
          refine W_region ?_
          refine L_r (r_add rfl rfl (by first | exact wr_i64 (by omega) | rfl)) ?_
          refine L_r (r_mi rfl) ?_
          refine L_nil ?_
          refine ⟨⟨fx2, fx2, trivial⟩, _, ?_, i + 1, V + 128 ^ i * (l[a + i].toNat % 128), rfl, (by exact congrArg (Value.int _) (or_step V i l[a + i].toNat hV hi (UInt8.toNat_lt _) (fun e9 => by omega))), ?_, rfl⟩
          · omega
          have h9a : ¬ (i = 9 ∧ 1 < l[a + i].toNat) := by omega
          exact ⟨by omega, by omega, num_below hV, num_next hN hdr h9a (by omega), Bk.au, Ow.au, Bk.au, Ch.au⟩
  · omega
end Go.Proofs.YtioonbfinnigpaaGreatDoor

