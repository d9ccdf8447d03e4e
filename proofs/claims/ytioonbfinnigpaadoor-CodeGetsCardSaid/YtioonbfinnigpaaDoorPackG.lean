/- A field: read by the document, read by the reader; walked. -/
import Derived.Test.YtioonbfinnigpaaDoorRef01n
namespace Go.Proofs.YtioonbfinnigpaaDoor
open Go Go.RowKit
set_option linter.unusedVariables false
set_option maxRecDepth 100000
set_option linter.unusedSimpArgs false
structure Fld where
  kind : Int
  most : Int
  n : Nat
  i : Int
  yes : Bool
  s : ByteArray
instance : Inhabited Fld := ⟨⟨0, 0, 0, 0, false, ByteArray.empty⟩⟩
def Fld.v (f : Fld) : Value := .agg #[.int .i64 f.kind, .int .i64 f.most, .int .u64 f.n, .int .i64 f.i, .bool f.yes, .string f.s]
theorem eqFld (k m i k' m' i' : Int) (n n' : Int) (y y' : Bool) (s s' : ByteArray) (W : World) :
    (Op.equal 63 (.agg #[.int .i64 k, .int .i64 m, .int .u64 n, .int .i64 i, .bool y, .string s]) (.agg #[.int .i64 k', .int .i64 m', .int .u64 n', .int .i64 i', .bool y', .string s'])).run Tryd.prog W =
      .ok (decide (k = k' ∧ m = m' ∧ n = n' ∧ i = i' ∧ y = y' ∧ s = s')) W := by
  rw [eq_struct Tryd.underlying63 (by kernel_rfl)]
  refine (eqF_cons (by decide) (by kernel_rfl) rfl rfl (eqI_int Tryd.underlying3) (eqF_cons (by decide) (by kernel_rfl) rfl rfl (eqI_int Tryd.underlying3) (eqF_cons (by decide) (by kernel_rfl) rfl rfl (eqI_int Tryd.underlying61) (eqF_cons (by decide) (by kernel_rfl) rfl rfl (eqI_int Tryd.underlying2) (eqF_cons (by decide) (by kernel_rfl) rfl rfl (eqI_bool Tryd.underlying4) (eqF_cons (by decide) (by kernel_rfl) rfl rfl (eqI_string Tryd.underlying9) eqF_nil)))))).trans ?_
  congr 1
  by_cases h : k = k' ∧ m = m' ∧ n = n' ∧ i = i' ∧ y = y' ∧ s = s'
  · rw [decide_eq_true h, decide_eq_true (by simpa using h)]
  · rw [decide_eq_false h, decide_eq_false (by simpa using h)]
/-- Nothing is read. -/
def Fld.none (kind most : Int) : Fld := ⟨kind, most, 0, 0, false, sb []⟩
/-- A field that bytes begin with: the error, the field, how many bytes. -/
def rdF (kind most : Int) (l : List UInt8) : Int × Fld × Nat :=
  if kind = 3 then ((flagR l).1, { Fld.none kind most with yes := (flagR l).2.1 }, (flagR l).2.2)
  else if kind = 0 then ((numL 0 l).1, { Fld.none kind most with n := (numL 0 l).2.1 }, (numL 0 l).2.2)
  else if kind = 1 then ((numL 0 l).1, { Fld.none kind most with i := zagI ((numL 0 l).2.1 : Nat) }, (numL 0 l).2.2)
  else if kind = 2 then ((countR most l).1, { Fld.none kind most with n := (countR most l).2.1 }, (countR most l).2.2)
  else ((textR l).1, { Fld.none kind most with s := sb (textR l).2.1 }, (textR l).2.2)
/-- What the document's reading gives. -/
def getV (kind most : Int) (s : ByteArray) : Value := if (rdF kind most (bs s)).1 = 0 then .tuple #[(rdF kind most (bs s)).2.1.v, .string (s.extract (rdF kind most (bs s)).2.2 s.size), .int .i64 0] else .tuple #[(Fld.none kind most).v, .string s, .int .i64 (rdF kind most (bs s)).1]
theorem getV_ok {kind most : Int} {s : ByteArray} {f : Fld} {k : Nat} (h : rdF kind most (bs s) = (0, f, k)) : Value.tuple #[f.v, .string (s.extract k s.size), .int .i64 0] = getV kind most s := by rw [getV, h, if_pos rfl]
theorem getV_err {kind most : Int} {s : ByteArray} {e : Int} (h : (rdF kind most (bs s)).1 = e) (he : e ≠ 0) : Value.tuple #[(Fld.none kind most).v, .string s, .int .i64 e] = getV kind most s := by rw [getV, h, if_neg he]
theorem rnum_ok (s : ByteArray) (v n : Nat) (w : World) (hN : numL 0 (bs s) = (0, v, n)) : Does Tryd.prog 36 #[.string s] w fun r w' => r = .tuple #[.int .u64 (v : Int), .string (s.extract n s.size), .int .i64 0] ∧ Nw w w' :=
  (rnum_walk s w).mono fun r w' ⟨h1, h2⟩ => ⟨by rw [h1, numV, hN, if_pos rfl], h2⟩
theorem rnum_bad (s : ByteArray) (e : Int) (w : World) (hN : (numL 0 (bs s)).1 = e) (he : e ≠ 0) : Does Tryd.prog 36 #[.string s] w fun r w' => r = .tuple #[.int .u64 0, .string s, .int .i64 e] ∧ Nw w w' :=
  (rnum_walk s w).mono fun r w' ⟨h1, h2⟩ => ⟨by rw [h1, numV, hN, if_neg he], h2⟩
theorem bs_head {s : ByteArray} (h : 0 < s.size) : ∃ t, bs s = bat s 0 :: t := by
  cases e : bs s with
  | nil => rw [← bs_length, e] at h; exact absurd h (by decide)
  | cons c t => exact ⟨t, by unfold bat; rw [e]; rfl⟩
theorem rd_flag (most : Int) (l : List UInt8) : rdF 3 most l = ((flagR l).1, { Fld.none 3 most with yes := (flagR l).2.1 }, (flagR l).2.2) := if_pos rfl
theorem flag_e0 (most : Int) {s : ByteArray} (h : s = { data := #[] }) : (rdF 3 most (bs s)).1 = 10 := by rw [rd_flag, h]; rfl
theorem flag_e1 (most : Int) {s : ByteArray} (h0 : 0 < s.size) (h : 1 < ((bat s 0).toNat : Int)) : (rdF 3 most (bs s)).1 = 11 := by
  obtain ⟨t, e⟩ := bs_head h0
  rw [rd_flag, e, flagR, if_pos (by omega)]
theorem flag_ok (most : Int) {s : ByteArray} (h0 : 0 < s.size) (h : ¬ 1 < ((bat s 0).toNat : Int)) : rdF 3 most (bs s) = (0, { Fld.none 3 most with yes := decide (((bat s 0).toNat : Int) = 1) }, 1) := by
  obtain ⟨t, e⟩ := bs_head h0
  rw [rd_flag, e, flagR, if_neg (by omega)]
  have e2 : decide ((bat s 0).toNat = 1) = decide (((bat s 0).toNat : Int) = 1) := decide_eq_decide.2 (by omega)
  rw [e2]
section
variable {kind most : Int} {l : List UInt8} {e : Int} {v n : Nat}
theorem rd_bad (h3 : ¬ kind = 3) (hN : (numL 0 l).1 = e) (he : e ≠ 0) : (rdF kind most l).1 = e := by
  unfold rdF
  rw [if_neg h3]
  split
  · exact hN
  split
  · exact hN
  split
  · unfold countR
    rw [if_neg (fun h => he (hN.symm.trans h.1))]; exact hN
  · rw [textR_err (by rw [hN]; exact he)]; exact hN
theorem rd_0 (hN : numL 0 l = (0, v, n)) (k0 : kind = 0) : rdF kind most l = (0, { Fld.none kind most with n := v }, n) := by
  unfold rdF; rw [if_neg (by omega), if_pos k0, hN]
theorem rd_1 (hN : numL 0 l = (0, v, n)) (k1 : kind = 1) : rdF kind most l = (0, { Fld.none kind most with i := zagI (v : Int) }, n) := by
  unfold rdF; rw [if_neg (by omega), if_neg (by omega), if_pos k1, hN]
theorem rd_2e (hN : numL 0 l = (0, v, n)) (k2 : kind = 2) (h : most < 0 ∨ most < v ∨ l.length - n < v) : (rdF kind most l).1 = 12 := by
  unfold rdF; rw [if_neg (by omega), if_neg (by omega), if_neg (by omega), if_pos k2]
  unfold countR
  rw [hN, if_pos ⟨rfl, h⟩]
theorem rd_2 (hN : numL 0 l = (0, v, n)) (k2 : kind = 2) (h : ¬ (most < 0 ∨ most < v ∨ l.length - n < v)) : rdF kind most l = (0, { Fld.none kind most with n := v }, n) := by
  unfold rdF; rw [if_neg (by omega), if_neg (by omega), if_neg (by omega), if_pos k2]
  unfold countR
  rw [hN, if_neg (fun h' => h h'.2)]
theorem rd_t (h3 : ¬ kind = 3) (k0 : ¬ kind = 0) (k1 : ¬ kind = 1) (k2 : ¬ kind = 2) : rdF kind most l = ((textR l).1, { Fld.none kind most with s := sb (textR l).2.1 }, (textR l).2.2) := by
  unfold rdF; rw [if_neg h3, if_neg k0, if_neg k1, if_neg k2]
theorem numL_in : ∀ (l : List UInt8) (i : Nat), (numL i l).1 = 0 → (numL i l).2.2 ≤ l.length
  | [], i, h => by simp [numL] at h
  | c :: t, i, h => by
    unfold numL at h ⊢
    split
    · simp
    · rename_i h1
      rw [if_neg h1] at h
      split
      · split <;> simp
      · rename_i h2
        rw [if_neg h2] at h
        have := numL_in t (i + 1) h
        simpa using this
end
section
variable {l : List UInt8} {v n : Nat} {s : ByteArray} {kind most : Int}
theorem getV_okf {f f' : Fld} {k : Nat} (h : rdF kind most (bs s) = (0, f', k)) (e : f = f') : Value.tuple #[f.v, .string (s.extract k s.size), .int .i64 0] = getV kind most s := by rw [e]; exact getV_ok h
theorem zag_odd (h : (v : Int) % 2 = 1) : 0 - (v : Int) / 2 - 1 = zagI v := by unfold zagI; rw [if_neg (by omega)]; omega
theorem zag_even (h : ¬ (v : Int) % 2 = 1) : (v : Int) / 2 = zagI v := by unfold zagI; rw [if_pos (by omega)]
theorem tx_big (hN : numL 0 l = (0, v, n)) (h : 4096 < v) : (textR l).1 = 12 := by rw [textR_big (by rw [hN]; simp) (by rw [hN]; exact h)]
theorem tx_short (hN : numL 0 l = (0, v, n)) (h : ¬ 4096 < v) (h2 : l.length - n < v) : (textR l).1 = 10 := by rw [textR_short (by rw [hN]; simp) (by rw [hN]; exact h) (by rw [hN]; exact h2)]
theorem bs_cut (s : ByteArray) (n v : Nat) : bs ((s.extract n s.size).extract 0 v) = ((bs s).drop n).take v := by rw [bs_extract_h, bs_extract_l]
theorem tx_form (hN : numL 0 (bs s) = (0, v, n)) (h : ¬ 4096 < v) (h2 : ¬ (bs s).length - n < v) (h3 : (!Lib.validD (bs ((s.extract n s.size).extract 0 (v : Int).toNat))) = true) : (textR (bs s)).1 = 11 := by
  rw [Int.toNat_natCast, bs_cut] at h3
  rw [textR_form (by rw [hN]; simp) (by rw [hN]; exact h) (by rw [hN]; exact h2) (by rw [hN]; simpa using h3)]
theorem tx_ok (hN : numL 0 (bs s) = (0, v, n)) (h : ¬ 4096 < v) (h2 : ¬ (bs s).length - n < v) (h3 : (!Lib.validD (bs ((s.extract n s.size).extract 0 (v : Int).toNat))) = false) : textR (bs s) = (0, ((bs s).drop n).take v, n + v) := by
  rw [Int.toNat_natCast, bs_cut] at h3
  rw [textR_good (by rw [hN]; simp) (by rw [hN]; exact h) (by rw [hN]; exact h2) (by rw [hN]; simpa using h3), hN]
theorem getV_text (h3 : ¬ kind = 3) (k0 : ¬ kind = 0) (k1 : ¬ kind = 1) (k2 : ¬ kind = 2) (hN : numL 0 (bs s) = (0, v, n)) (h : ¬ 4096 < v) (h2 : ¬ (bs s).length - n < v) (h4 : (!Lib.validD (bs ((s.extract n s.size).extract 0 (v : Int).toNat))) = false) :
    Value.tuple #[.agg #[.int .i64 kind, .int .i64 most, .int .u64 0, .int .i64 0, .bool false, .string ((s.extract n s.size).extract 0 (v : Int).toNat)], .string ((s.extract n s.size).extract (v : Int).toNat (s.extract n s.size).size), .int .i64 0] = getV kind most s := by
  have e1 : (s.extract n s.size).extract 0 v = sb (((bs s).drop n).take v) := bs_inj.1 (by rw [bs_cut, bs_sb])
  have e2 : (s.extract n s.size).extract v (s.extract n s.size).size = s.extract (n + v) s.size := bs_inj.1 (by rw [bs_extract_l, bs_extract_l, bs_extract_l, List.drop_drop])
  have e3 := rd_t (most := most) (l := bs s) h3 k0 k1 k2
  rw [tx_ok hN h h2 h4] at e3
  rw [Int.toNat_natCast, e1, e2]
  exact getV_ok e3
end
theorem rget_flag (most : Int) (s : ByteArray) (w0 : World) : Does Tryd.prog 35 #[.int .i64 3, .int .i64 most, .string s] w0 (fun r w' => r = getV 3 most s ∧ Nw w0 w') := by
  refine fn_of (n := 112) (args := [.int .i64 3, .int .i64 most, .string s]) Tryd.func35 rfl rfl rfl ?_
  refine W_seq ?_
  refine W_region ?_
  refine L_new (.plain rfl) rfl rfl (r_alloca rfl) (fun w1 b6 hb6 eb1 hs1 c1 => ?_)
  refine L_r (r_as rfl) ?_
  refine L_r (r_ai rfl) ?_
  refine L_nil ?_
  refine W_seq ?_
  refine W_region ?_
  refine L_r (r_mi rfl) ?_
  refine L_r (r_mi rfl) ?_
  refine L_r (r_build1 (pl := [(0, 1), (1, 1), (2, 1), (3, 1), (4, 1), (5, 1)]) (vs := [(0, .int _ _), (1, .int _ _)]) (cells := [_, _, _, _, _, _]) Tryd.underlying63 rfl rfl (by rfl) rfl (by rfl)) ?_
  refine L_new (.plain rfl) rfl rfl (r_alloca rfl) (fun w2 b9 hb9 eb2 hs2 c2 => ?_)
  refine L_storerow (.plain rfl) rfl rfl Bk.au (by first | rfl | (simp; done) | assumption) (by first | rfl | assumption) (by first | rfl | (simp [Value.oneCell']; done) | assumption) (fun w3 hb3 hs3 c3 => ?_)
  refine L_nil ?_
  refine W_seq ?_
  refine W_seq ?_
  refine W_region ?_
  refine L_r (r_mi rfl) ?_
  refine L_r (r_eql rfl rfl) ?_
  refine L_as (v := .bool _) (v' := .bool true) 17 rfl (dec_t (by rfl)).symm ?_
  refine L_nil ?_
  refine W_true rfl ?_
  refine W_seq ?_
  refine W_seq ?_
  refine W_region ?_
  refine L_r (r_ms rfl) ?_
  refine L_r (r_eqls rfl rfl) ?_
  refine L_nil ?_
  refine W_if rfl (fun h19 => ?_) (fun h19 => ?_)
  · refine W_seq ?_
    refine W_region ?_
    refine L_r (r_loadrow Tryd.underlying63 rfl rfl Bk.au (by first | rfl | assumption)) ?_
    refine L_r (r_ms rfl) ?_
    refine L_storerow (.plain rfl) rfl rfl Bk.au (by first | rfl | (simp; done) | assumption) (by first | rfl | assumption) (by first | rfl | (simp [Value.oneCell']; done) | assumption) (fun w4 hb4 hs4 c4 => ?_)
    refine L_r (r_as rfl) ?_
    refine L_r (r_ai rfl) ?_
    refine L_nil ?_
    refine W_ret ?_
    refine r_ret_ctt rfl rfl Tryd.underlying63 rfl Bk.au (by first | rfl | assumption) (show _ = (.string _ : Value) from rfl) (show _ = (.int _ _ : Value) from rfl) ?_
    first
    | exact ⟨getV_err (flag_e0 most h19) (by decide), Ch.au⟩
    | exact ⟨getV_err (flag_e1 most hs0 h24) (by decide), Ch.au⟩
    | exact ⟨getV_ok (flag_ok most hs0 h24), Ch.au⟩
  · have hs0 := ba_pos h19
    refine W_skip ?_
    refine W_seq ?_
    refine W_seq ?_
    refine W_region ?_
    refine L_r (r_ms rfl) ?_
    refine L_r (r_indexs Tryd.underlying9 rfl rfl (by omega) (by omega) (by conv => lhs; (try simp only [Nat.mul_one, Nat.zero_add, Int.toNat_natCast, Int.toNat_zero, Int.reduceToNat, Nat.reduceMul, Nat.reduceAdd]))) ?_
    refine L_r (r_gtr rfl rfl) ?_
    refine L_nil ?_
    refine W_if rfl (fun h24 => ?_) (fun h24 => ?_)
    · refine W_seq ?_
      refine W_region ?_
      refine L_r (r_loadrow Tryd.underlying63 rfl rfl Bk.au (by first | rfl | assumption)) ?_
      refine L_r (r_ms rfl) ?_
      refine L_storerow (.plain rfl) rfl rfl Bk.au (by first | rfl | (simp; done) | assumption) (by first | rfl | assumption) (by first | rfl | (simp [Value.oneCell']; done) | assumption) (fun w5 hb5 hs5 c5 => ?_)
      refine L_r (r_as rfl) ?_
      refine L_r (r_ai rfl) ?_
      refine L_nil ?_
      refine W_ret ?_
      refine r_ret_ctt rfl rfl Tryd.underlying63 rfl Bk.au (by first | rfl | assumption) (show _ = (.string _ : Value) from rfl) (show _ = (.int _ _ : Value) from rfl) ?_
      first
      | exact ⟨getV_err (flag_e0 most h19) (by decide), Ch.au⟩
      | exact ⟨getV_err (flag_e1 most hs0 h24) (by decide), Ch.au⟩
      | exact ⟨getV_ok (flag_ok most hs0 h24), Ch.au⟩
    · refine W_skip ?_
      refine W_seq ?_
      refine W_region ?_
      refine L_r (r_ms rfl) ?_
      refine L_r (r_indexs Tryd.underlying9 rfl rfl (by omega) (by omega) (by conv => lhs; (try simp only [Nat.mul_one, Nat.zero_add, Int.toNat_natCast, Int.toNat_zero, Int.reduceToNat, Nat.reduceMul, Nat.reduceAdd]))) ?_
      refine L_r (r_eql rfl rfl) ?_
      refine L_r (r_fieldb Tryd.underlying63 rfl (show _ = some 1 from rfl) rfl rfl (show _ = 4 from rfl)) ?_
      refine L_set (.plain rfl) rfl Bk.au (r_store (v := .bool _) rfl rfl rfl rfl Bk.au (by first | decide | (simp; done) | omega)) (fun w6 hb6 hs6 c6 => ?_)
      try simp only [List.setIfInBounds_toArray, List.set_cons_zero, List.set_cons_succ] at hb6
      refine L_nil ?_
      refine W_seq ?_
      refine W_draw (fun W => Bk W b9 #[.int .i64 3, .int .i64 most, .int .u64 0, .int .i64 0, .bool (decide (((bat s 0).toNat : Int) = 1)), .string { data := #[] }] 63) 6 (m := 6) (by kernel_rfl) rfl (fun w7 c7 hs7 => ?_)
      refine held Bk.au (fun hS => ?_)
      refine D_t 0 rfl (fun W hW => r_loadrow Tryd.underlying63 rfl rfl (by exact hW) (by first | rfl | assumption)) ?_
      refine D_t 1 rfl (fun W hW => r_ms rfl) ?_
      refine D_t 2 rfl (fun W hW => r_slices_l Tryd.underlying9 rfl rfl (by omega) (by omega)) ?_
      refine D_ev 3 (by kernel_rfl) rfl ?_
      refine L_storerow (.plain rfl) rfl rfl Bk.au (by first | rfl | (simp; done) | assumption) (by first | rfl | assumption) (by first | rfl | (simp [Value.oneCell']; done) | assumption) (fun w8 hb8 hs8 c8 => ?_)
      refine L_nil ?_
      refine heldK Bk.au (fun hS => ?_)
      refine D_t 4 rfl (fun W hW => r_as rfl) ?_
      refine D_t 5 rfl (fun W hW => r_ai rfl) ?_
      refine D_done (by kernel_rfl) ?_
      refine W_ret ?_
      refine r_ret_ctt rfl rfl Tryd.underlying63 rfl Bk.au (by first | rfl | assumption) (show _ = (.string _ : Value) from rfl) (show _ = (.int _ _ : Value) from rfl) ?_
      first
      | exact ⟨getV_err (flag_e0 most h19) (by decide), Ch.au⟩
      | exact ⟨getV_err (flag_e1 most hs0 h24) (by decide), Ch.au⟩
      | exact ⟨getV_ok (flag_ok most hs0 h24), Ch.au⟩
theorem rget_bad (kind most : Int) (s : ByteArray) (e : Int) (w0 : World) (h3 : ¬ kind = 3) (hN : (numL 0 (bs s)).1 = e) (he : e ≠ 0) : Does Tryd.prog 35 #[.int .i64 kind, .int .i64 most, .string s] w0 (fun r w' => r = getV kind most s ∧ Nw w0 w') := by
  refine fn_of (n := 112) (args := [.int .i64 kind, .int .i64 most, .string s]) Tryd.func35 rfl rfl rfl ?_
  refine W_seq ?_
  refine W_region ?_
  refine L_new (.plain rfl) rfl rfl (r_alloca rfl) (fun w1 b6 hb6 eb1 hs1 c1 => ?_)
  refine L_r (r_as rfl) ?_
  refine L_r (r_ai rfl) ?_
  refine L_nil ?_
  refine W_seq ?_
  refine W_region ?_
  refine L_r (r_mi rfl) ?_
  refine L_r (r_mi rfl) ?_
  refine L_r (r_build1 (pl := [(0, 1), (1, 1), (2, 1), (3, 1), (4, 1), (5, 1)]) (vs := [(0, .int _ _), (1, .int _ _)]) (cells := [_, _, _, _, _, _]) Tryd.underlying63 rfl rfl (by rfl) rfl (by rfl)) ?_
  refine L_new (.plain rfl) rfl rfl (r_alloca rfl) (fun w2 b9 hb9 eb2 hs2 c2 => ?_)
  refine L_storerow (.plain rfl) rfl rfl Bk.au (by first | rfl | (simp; done) | assumption) (by first | rfl | assumption) (by first | rfl | (simp [Value.oneCell']; done) | assumption) (fun w3 hb3 hs3 c3 => ?_)
  refine L_nil ?_
  refine W_seq ?_
  refine W_seq ?_
  refine W_region ?_
  refine L_r (r_mi rfl) ?_
  refine L_r (r_eql rfl rfl) ?_
  refine L_as (v := .bool _) (v' := .bool false) 17 rfl (dec_f (by exact h3)).symm ?_
  refine L_nil ?_
  refine W_false rfl ?_
  refine W_skip ?_
  refine W_seq ?_
  refine W_region ?_
  refine L_r (r_ms rfl) ?_
  refine L_call (.plain rfl) rfl rfl (r_call Tryd.func36 rfl rfl rfl (by rfl)) (rnum_bad s e _ hN he) ?_
  rintro v36 w4 ⟨rfl, c4⟩
  have hz4 := c4.size
  refine L_r (r_mv) ?_
  refine L_r (r_ext3_0 rfl) ?_
  refine L_r (r_ext3_1 rfl) ?_
  refine L_r (r_ext3_2 rfl) ?_
  refine L_r (r_ai rfl) ?_
  refine L_r (r_as rfl) ?_
  refine L_r (r_ai rfl) ?_
  refine L_nil ?_
  refine W_seq ?_
  refine W_seq ?_
  refine W_region ?_
  refine L_r (r_mi rfl) ?_
  refine L_r (r_neq rfl rfl) ?_
  refine L_as (v := .bool _) (v' := .bool true) 41 rfl (dec_t (by exact he)).symm ?_
  refine L_nil ?_
  refine W_true rfl ?_
  refine W_seq ?_
  refine W_region ?_
  refine L_r (r_loadrow Tryd.underlying63 rfl rfl Bk.au (by first | rfl | assumption)) ?_
  refine L_r (r_ms rfl) ?_
  refine L_r (r_mi rfl) ?_
  refine L_storerow (.plain rfl) rfl rfl Bk.au (by first | rfl | (simp; done) | assumption) (by first | rfl | assumption) (by first | rfl | (simp [Value.oneCell']; done) | assumption) (fun w5 hb5 hs5 c5 => ?_)
  refine L_r (r_as rfl) ?_
  refine L_r (r_ai rfl) ?_
  refine L_nil ?_
  refine W_ret ?_
  refine r_ret_ctt rfl rfl Tryd.underlying63 rfl Bk.au (by first | rfl | assumption) (show _ = (.string _ : Value) from rfl) (show _ = (.int _ _ : Value) from rfl) ?_
  exact ⟨getV_err (rd_bad h3 hN he) he, Ch.au⟩
set_option maxHeartbeats 1000000 in
theorem rget_good (kind most : Int) (s : ByteArray) (v n : Nat) (w0 : World) (h3 : ¬ kind = 3) (hN : numL 0 (bs s) = (0, v, n)) (hm : -9223372036854775808 ≤ most ∧ most ≤ 9223372036854775807) (hs : s.size ≤ 100000000) : Does Tryd.prog 35 #[.int .i64 kind, .int .i64 most, .string s] w0 (fun r w' => r = getV kind most s ∧ Nw w0 w') := by
  have hv : v < 18446744073709551616 := by have h := numL_lt (bs s) 0 (by omega); rw [hN] at h; exact h
  have hn : n ≤ s.size := by have h := numL_in (bs s) 0 (by rw [hN]); rw [hN, bs_length] at h; exact h
  have hrl : (s.extract n s.size).size = s.size - n := by rw [← bs_length, bs_extract_l, List.length_drop, bs_length]
  refine fn_of (n := 112) (args := [.int .i64 kind, .int .i64 most, .string s]) Tryd.func35 rfl rfl rfl ?_
  refine W_seq ?_
  refine W_region ?_
  refine L_new (.plain rfl) rfl rfl (r_alloca rfl) (fun w1 b6 hb6 eb1 hs1 c1 => ?_)
  refine L_r (r_as rfl) ?_
  refine L_r (r_ai rfl) ?_
  refine L_nil ?_
  refine W_seq ?_
  refine W_region ?_
  refine L_r (r_mi rfl) ?_
  refine L_r (r_mi rfl) ?_
  refine L_r (r_build1 (pl := [(0, 1), (1, 1), (2, 1), (3, 1), (4, 1), (5, 1)]) (vs := [(0, .int _ _), (1, .int _ _)]) (cells := [_, _, _, _, _, _]) Tryd.underlying63 rfl rfl (by rfl) rfl (by rfl)) ?_
  refine L_new (.plain rfl) rfl rfl (r_alloca rfl) (fun w2 b9 hb9 eb2 hs2 c2 => ?_)
  refine L_storerow (.plain rfl) rfl rfl Bk.au (by first | rfl | (simp; done) | assumption) (by first | rfl | assumption) (by first | rfl | (simp [Value.oneCell']; done) | assumption) (fun w3 hb3 hs3 c3 => ?_)
  refine L_nil ?_
  refine W_seq ?_
  refine W_seq ?_
  refine W_region ?_
  refine L_r (r_mi rfl) ?_
  refine L_r (r_eql rfl rfl) ?_
  refine L_as (v := .bool _) (v' := .bool false) 17 rfl (dec_f (by exact h3)).symm ?_
  refine L_nil ?_
  refine W_false rfl ?_
  refine W_skip ?_
  refine W_seq ?_
  refine W_region ?_
  refine L_r (r_ms rfl) ?_
  refine L_call (.plain rfl) rfl rfl (r_call Tryd.func36 rfl rfl rfl (by rfl)) (rnum_ok s v n _ hN) ?_
  rintro v36 w4 ⟨rfl, c4⟩
  have hz4 := c4.size
  refine L_r (r_mv) ?_
  refine L_r (r_ext3_0 rfl) ?_
  refine L_r (r_ext3_1 rfl) ?_
  refine L_r (r_ext3_2 rfl) ?_
  refine L_r (r_ai rfl) ?_
  refine L_r (r_as rfl) ?_
  refine L_r (r_ai rfl) ?_
  refine L_nil ?_
  refine W_seq ?_
  refine W_seq ?_
  refine W_region ?_
  refine L_r (r_mi rfl) ?_
  refine L_r (r_neq rfl rfl) ?_
  refine L_as (v := .bool _) (v' := .bool false) 41 rfl (dec_f (by simp)).symm ?_
  refine L_nil ?_
  refine W_false rfl ?_
  refine W_skip ?_
  refine W_seq ?_
  refine W_seq ?_
  refine W_region ?_
  refine L_r (r_mi rfl) ?_
  refine L_nil ?_
  refine W_block ?_
  refine W_seq ?_
  refine W_region ?_
  refine L_r (r_eql rfl rfl) ?_
  refine L_r (r_ab rfl) ?_
  refine L_nil ?_
  refine W_if rfl (fun h71 => ?_) (fun h71 => ?_)
  · refine W_region ?_
    refine L_r (r_mi rfl) ?_
    refine L_r (r_fieldb Tryd.underlying63 rfl (show _ = some 1 from rfl) rfl rfl (show _ = 2 from rfl)) ?_
    refine L_set (.plain rfl) rfl Bk.au (r_store (v := .int _ _) rfl rfl rfl rfl Bk.au (by first | decide | (simp; done) | omega)) (fun w5 hb5 hs5 c5 => ?_)
    try simp only [List.setIfInBounds_toArray, List.set_cons_zero, List.set_cons_succ] at hb5
    refine L_nil ?_
    refine W_seq ?_
    refine W_region ?_
    refine L_r (r_loadrow Tryd.underlying63 rfl rfl Bk.au (by first | rfl | assumption)) ?_
    refine L_r (r_ms rfl) ?_
    refine L_storerow (.plain rfl) rfl rfl Bk.au (by first | rfl | (simp; done) | assumption) (by first | rfl | assumption) (by first | rfl | (simp [Value.oneCell']; done) | assumption) (fun w6 hb6 hs6 c6 => ?_)
    refine L_r (r_as rfl) ?_
    refine L_r (r_ai rfl) ?_
    refine L_nil ?_
    refine W_ret ?_
    refine r_ret_ctt rfl rfl Tryd.underlying63 rfl Bk.au (by first | rfl | assumption) (show _ = (.string _ : Value) from rfl) (show _ = (.int _ _ : Value) from rfl) ?_
    first
    | exact ⟨getV_ok (rd_0 hN h71), Ch.au⟩
    | exact ⟨getV_okf (f := ⟨kind, most, 0, 0 - (v : Int) / 2 - 1, false, sb []⟩) (rd_1 hN h75) (congrArg (fun x => (⟨kind, most, 0, x, false, sb []⟩ : Fld)) (zag_odd h83)), Ch.au⟩
    | exact ⟨getV_okf (f := ⟨kind, most, 0, (v : Int) / 2, false, sb []⟩) (rd_1 hN h75) (congrArg (fun x => (⟨kind, most, 0, x, false, sb []⟩ : Fld)) (zag_even h83)), Ch.au⟩
    | exact ⟨getV_err (rd_2e hN h89 (.inl h93)) (by decide), Ch.au⟩
    | exact ⟨getV_err (rd_2e hN h89 (.inr (.inl h99))) (by decide), Ch.au⟩
    | exact ⟨getV_err (rd_2e hN h89 (.inr (.inr (by rw [bs_length]; omega)))) (by decide), Ch.au⟩
    | exact ⟨getV_ok (rd_2 hN h89 (by rw [bs_length]; omega)), Ch.au⟩
    | exact ⟨getV_err ((congrArg (·.1) (rd_t h3 h71 h75 h89)).trans (tx_big hN (by omega))) (by decide), Ch.au⟩
    | exact ⟨getV_err ((congrArg (·.1) (rd_t h3 h71 h75 h89)).trans (tx_short hN (by omega) (by rw [bs_length]; omega))) (by decide), Ch.au⟩
    | exact ⟨getV_err ((congrArg (·.1) (rd_t h3 h71 h75 h89)).trans (tx_form hN (by omega) (by rw [bs_length]; omega) h61)) (by decide), Ch.au⟩
    | exact ⟨getV_text h3 h71 h75 h89 hN (by omega) (by rw [bs_length]; omega) h61, Ch.au⟩
  · refine W_seq ?_
    refine W_region ?_
    refine L_r (r_eql rfl rfl) ?_
    refine L_r (r_ab rfl) ?_
    refine L_nil ?_
    refine W_if rfl (fun h75 => ?_) (fun h75 => ?_)
    · refine W_seq ?_
      refine W_region ?_
      refine L_r (r_mi rfl) ?_
      refine L_r (r_quon rfl rfl (by omega) (by omega) (by first | exact wr_u64 (by omega) | rfl)) ?_
      refine L_r (r_conv Tryd.underlying61 Tryd.underlying2 rfl (by first | exact wr_i64 (by omega) | rfl)) ?_
      refine L_r (r_fieldb Tryd.underlying63 rfl (show _ = some 1 from rfl) rfl rfl (show _ = 3 from rfl)) ?_
      refine L_set (.plain rfl) rfl Bk.au (r_store (v := .int _ _) rfl rfl rfl rfl Bk.au (by first | decide | (simp; done) | omega)) (fun w7 hb7 hs7 c7 => ?_)
      try simp only [List.setIfInBounds_toArray, List.set_cons_zero, List.set_cons_succ] at hb7
      refine L_nil ?_
      refine W_seq ?_
      refine W_region ?_
      refine L_r (r_mi rfl) ?_
      refine L_r (r_remn rfl rfl (by omega) (by omega)) ?_
      refine L_r (r_eql rfl rfl) ?_
      refine L_nil ?_
      refine W_if rfl (fun h83 => ?_) (fun h83 => ?_)
      · refine W_region ?_
        refine L_r (r_fieldb Tryd.underlying63 rfl (show _ = some 1 from rfl) rfl rfl (show _ = 3 from rfl)) ?_
        refine L_r (r_lb rfl rfl) ?_
        refine L_r (r_neg rfl (by first | exact wr_i64 (by omega) | rfl)) ?_
        refine L_r (r_sub rfl rfl (by first | exact wr_i64 (by omega) | rfl)) ?_
        refine L_r (r_fieldb Tryd.underlying63 rfl (show _ = some 1 from rfl) rfl rfl (show _ = 3 from rfl)) ?_
        refine L_set (.plain rfl) rfl Bk.au (r_store (v := .int _ _) rfl rfl rfl rfl Bk.au (by first | decide | (simp; done) | omega)) (fun w8 hb8 hs8 c8 => ?_)
        try simp only [List.setIfInBounds_toArray, List.set_cons_zero, List.set_cons_succ] at hb8
        refine L_nil ?_
        refine W_seq ?_
        refine W_region ?_
        refine L_r (r_loadrow Tryd.underlying63 rfl rfl Bk.au (by first | rfl | assumption)) ?_
        refine L_r (r_ms rfl) ?_
        refine L_storerow (.plain rfl) rfl rfl Bk.au (by first | rfl | (simp; done) | assumption) (by first | rfl | assumption) (by first | rfl | (simp [Value.oneCell']; done) | assumption) (fun w9 hb9 hs9 c9 => ?_)
        refine L_r (r_as rfl) ?_
        refine L_r (r_ai rfl) ?_
        refine L_nil ?_
        refine W_ret ?_
        refine r_ret_ctt rfl rfl Tryd.underlying63 rfl Bk.au (by first | rfl | assumption) (show _ = (.string _ : Value) from rfl) (show _ = (.int _ _ : Value) from rfl) ?_
        first
        | exact ⟨getV_ok (rd_0 hN h71), Ch.au⟩
        | exact ⟨getV_okf (f := ⟨kind, most, 0, 0 - (v : Int) / 2 - 1, false, sb []⟩) (rd_1 hN h75) (congrArg (fun x => (⟨kind, most, 0, x, false, sb []⟩ : Fld)) (zag_odd h83)), Ch.au⟩
        | exact ⟨getV_okf (f := ⟨kind, most, 0, (v : Int) / 2, false, sb []⟩) (rd_1 hN h75) (congrArg (fun x => (⟨kind, most, 0, x, false, sb []⟩ : Fld)) (zag_even h83)), Ch.au⟩
        | exact ⟨getV_err (rd_2e hN h89 (.inl h93)) (by decide), Ch.au⟩
        | exact ⟨getV_err (rd_2e hN h89 (.inr (.inl h99))) (by decide), Ch.au⟩
        | exact ⟨getV_err (rd_2e hN h89 (.inr (.inr (by rw [bs_length]; omega)))) (by decide), Ch.au⟩
        | exact ⟨getV_ok (rd_2 hN h89 (by rw [bs_length]; omega)), Ch.au⟩
        | exact ⟨getV_err ((congrArg (·.1) (rd_t h3 h71 h75 h89)).trans (tx_big hN (by omega))) (by decide), Ch.au⟩
        | exact ⟨getV_err ((congrArg (·.1) (rd_t h3 h71 h75 h89)).trans (tx_short hN (by omega) (by rw [bs_length]; omega))) (by decide), Ch.au⟩
        | exact ⟨getV_err ((congrArg (·.1) (rd_t h3 h71 h75 h89)).trans (tx_form hN (by omega) (by rw [bs_length]; omega) h61)) (by decide), Ch.au⟩
        | exact ⟨getV_text h3 h71 h75 h89 hN (by omega) (by rw [bs_length]; omega) h61, Ch.au⟩
      · refine W_skip ?_
        refine W_seq ?_
        refine W_region ?_
        refine L_r (r_loadrow Tryd.underlying63 rfl rfl Bk.au (by first | rfl | assumption)) ?_
        refine L_r (r_ms rfl) ?_
        refine L_storerow (.plain rfl) rfl rfl Bk.au (by first | rfl | (simp; done) | assumption) (by first | rfl | assumption) (by first | rfl | (simp [Value.oneCell']; done) | assumption) (fun w10 hb10 hs10 c10 => ?_)
        refine L_r (r_as rfl) ?_
        refine L_r (r_ai rfl) ?_
        refine L_nil ?_
        refine W_ret ?_
        refine r_ret_ctt rfl rfl Tryd.underlying63 rfl Bk.au (by first | rfl | assumption) (show _ = (.string _ : Value) from rfl) (show _ = (.int _ _ : Value) from rfl) ?_
        first
        | exact ⟨getV_ok (rd_0 hN h71), Ch.au⟩
        | exact ⟨getV_okf (f := ⟨kind, most, 0, 0 - (v : Int) / 2 - 1, false, sb []⟩) (rd_1 hN h75) (congrArg (fun x => (⟨kind, most, 0, x, false, sb []⟩ : Fld)) (zag_odd h83)), Ch.au⟩
        | exact ⟨getV_okf (f := ⟨kind, most, 0, (v : Int) / 2, false, sb []⟩) (rd_1 hN h75) (congrArg (fun x => (⟨kind, most, 0, x, false, sb []⟩ : Fld)) (zag_even h83)), Ch.au⟩
        | exact ⟨getV_err (rd_2e hN h89 (.inl h93)) (by decide), Ch.au⟩
        | exact ⟨getV_err (rd_2e hN h89 (.inr (.inl h99))) (by decide), Ch.au⟩
        | exact ⟨getV_err (rd_2e hN h89 (.inr (.inr (by rw [bs_length]; omega)))) (by decide), Ch.au⟩
        | exact ⟨getV_ok (rd_2 hN h89 (by rw [bs_length]; omega)), Ch.au⟩
        | exact ⟨getV_err ((congrArg (·.1) (rd_t h3 h71 h75 h89)).trans (tx_big hN (by omega))) (by decide), Ch.au⟩
        | exact ⟨getV_err ((congrArg (·.1) (rd_t h3 h71 h75 h89)).trans (tx_short hN (by omega) (by rw [bs_length]; omega))) (by decide), Ch.au⟩
        | exact ⟨getV_err ((congrArg (·.1) (rd_t h3 h71 h75 h89)).trans (tx_form hN (by omega) (by rw [bs_length]; omega) h61)) (by decide), Ch.au⟩
        | exact ⟨getV_text h3 h71 h75 h89 hN (by omega) (by rw [bs_length]; omega) h61, Ch.au⟩
    · refine W_seq ?_
      refine W_region ?_
      refine L_r (r_eql rfl rfl) ?_
      refine L_r (r_ab rfl) ?_
      refine L_nil ?_
      refine W_if rfl (fun h89 => ?_) (fun h89 => ?_)
      · refine W_seq ?_
        refine W_seq ?_
        refine W_region ?_
        refine L_r (r_mi rfl) ?_
        refine L_r (r_lss rfl rfl) ?_
        refine L_r (r_mb rfl) ?_
        refine L_case (d := 93) rfl (fun h93 => ?_) (fun h93 => ?_)
        · refine L_ps ?_
          refine L_ps ?_
          refine L_ps ?_
          refine L_ps ?_
          refine L_r (r_pt rfl rfl) ?_
          refine L_r (r_mb rfl) ?_
          refine L_ps ?_
          refine L_ps ?_
          refine L_ps ?_
          refine L_ps ?_
          refine L_ps ?_
          refine L_r (r_pt rfl rfl) ?_
          refine L_nil ?_
          refine W_true rfl ?_
          refine W_seq ?_
          refine W_region ?_
          refine L_r (r_loadrow Tryd.underlying63 rfl rfl Bk.au (by first | rfl | assumption)) ?_
          refine L_r (r_ms rfl) ?_
          refine L_storerow (.plain rfl) rfl rfl Bk.au (by first | rfl | (simp; done) | assumption) (by first | rfl | assumption) (by first | rfl | (simp [Value.oneCell']; done) | assumption) (fun w11 hb11 hs11 c11 => ?_)
          refine L_r (r_as rfl) ?_
          refine L_r (r_ai rfl) ?_
          refine L_nil ?_
          refine W_ret ?_
          refine r_ret_ctt rfl rfl Tryd.underlying63 rfl Bk.au (by first | rfl | assumption) (show _ = (.string _ : Value) from rfl) (show _ = (.int _ _ : Value) from rfl) ?_
          first
          | exact ⟨getV_ok (rd_0 hN h71), Ch.au⟩
          | exact ⟨getV_okf (f := ⟨kind, most, 0, 0 - (v : Int) / 2 - 1, false, sb []⟩) (rd_1 hN h75) (congrArg (fun x => (⟨kind, most, 0, x, false, sb []⟩ : Fld)) (zag_odd h83)), Ch.au⟩
          | exact ⟨getV_okf (f := ⟨kind, most, 0, (v : Int) / 2, false, sb []⟩) (rd_1 hN h75) (congrArg (fun x => (⟨kind, most, 0, x, false, sb []⟩ : Fld)) (zag_even h83)), Ch.au⟩
          | exact ⟨getV_err (rd_2e hN h89 (.inl h93)) (by decide), Ch.au⟩
          | exact ⟨getV_err (rd_2e hN h89 (.inr (.inl h99))) (by decide), Ch.au⟩
          | exact ⟨getV_err (rd_2e hN h89 (.inr (.inr (by rw [bs_length]; omega)))) (by decide), Ch.au⟩
          | exact ⟨getV_ok (rd_2 hN h89 (by rw [bs_length]; omega)), Ch.au⟩
          | exact ⟨getV_err ((congrArg (·.1) (rd_t h3 h71 h75 h89)).trans (tx_big hN (by omega))) (by decide), Ch.au⟩
          | exact ⟨getV_err ((congrArg (·.1) (rd_t h3 h71 h75 h89)).trans (tx_short hN (by omega) (by rw [bs_length]; omega))) (by decide), Ch.au⟩
          | exact ⟨getV_err ((congrArg (·.1) (rd_t h3 h71 h75 h89)).trans (tx_form hN (by omega) (by rw [bs_length]; omega) h61)) (by decide), Ch.au⟩
          | exact ⟨getV_text h3 h71 h75 h89 hN (by omega) (by rw [bs_length]; omega) h61, Ch.au⟩
        · refine L_g (r_mi rfl) ?_
          refine L_g (r_mi rfl) ?_
          refine L_g (r_conv Tryd.underlying3 Tryd.underlying61 rfl (by first | exact wr_u64 (by omega) | rfl)) ?_
          refine L_g (r_gtr rfl rfl) ?_
          refine L_r (r_pf rfl rfl) ?_
          refine L_r (r_mb rfl) ?_
          refine L_case (d := 99) rfl (fun h99 => ?_) (fun h99 => ?_)
          · refine L_ps ?_
            refine L_ps ?_
            refine L_ps ?_
            refine L_ps ?_
            refine L_ps ?_
            refine L_r (r_pt rfl rfl) ?_
            refine L_nil ?_
            refine W_true rfl ?_
            refine W_seq ?_
            refine W_region ?_
            refine L_r (r_loadrow Tryd.underlying63 rfl rfl Bk.au (by first | rfl | assumption)) ?_
            refine L_r (r_ms rfl) ?_
            refine L_storerow (.plain rfl) rfl rfl Bk.au (by first | rfl | (simp; done) | assumption) (by first | rfl | assumption) (by first | rfl | (simp [Value.oneCell']; done) | assumption) (fun w12 hb12 hs12 c12 => ?_)
            refine L_r (r_as rfl) ?_
            refine L_r (r_ai rfl) ?_
            refine L_nil ?_
            refine W_ret ?_
            refine r_ret_ctt rfl rfl Tryd.underlying63 rfl Bk.au (by first | rfl | assumption) (show _ = (.string _ : Value) from rfl) (show _ = (.int _ _ : Value) from rfl) ?_
            first
            | exact ⟨getV_ok (rd_0 hN h71), Ch.au⟩
            | exact ⟨getV_okf (f := ⟨kind, most, 0, 0 - (v : Int) / 2 - 1, false, sb []⟩) (rd_1 hN h75) (congrArg (fun x => (⟨kind, most, 0, x, false, sb []⟩ : Fld)) (zag_odd h83)), Ch.au⟩
            | exact ⟨getV_okf (f := ⟨kind, most, 0, (v : Int) / 2, false, sb []⟩) (rd_1 hN h75) (congrArg (fun x => (⟨kind, most, 0, x, false, sb []⟩ : Fld)) (zag_even h83)), Ch.au⟩
            | exact ⟨getV_err (rd_2e hN h89 (.inl h93)) (by decide), Ch.au⟩
            | exact ⟨getV_err (rd_2e hN h89 (.inr (.inl h99))) (by decide), Ch.au⟩
            | exact ⟨getV_err (rd_2e hN h89 (.inr (.inr (by rw [bs_length]; omega)))) (by decide), Ch.au⟩
            | exact ⟨getV_ok (rd_2 hN h89 (by rw [bs_length]; omega)), Ch.au⟩
            | exact ⟨getV_err ((congrArg (·.1) (rd_t h3 h71 h75 h89)).trans (tx_big hN (by omega))) (by decide), Ch.au⟩
            | exact ⟨getV_err ((congrArg (·.1) (rd_t h3 h71 h75 h89)).trans (tx_short hN (by omega) (by rw [bs_length]; omega))) (by decide), Ch.au⟩
            | exact ⟨getV_err ((congrArg (·.1) (rd_t h3 h71 h75 h89)).trans (tx_form hN (by omega) (by rw [bs_length]; omega) h61)) (by decide), Ch.au⟩
            | exact ⟨getV_text h3 h71 h75 h89 hN (by omega) (by rw [bs_length]; omega) h61, Ch.au⟩
          · refine L_g (r_mi rfl) ?_
            refine L_g (r_ms rfl) ?_
            refine L_g (r_lens Tryd.underlying9 rfl) ?_
            refine L_g (r_conv Tryd.underlying3 Tryd.underlying61 rfl (by first | exact wr_u64 (by omega) | rfl)) ?_
            refine L_g (r_gtr rfl rfl) ?_
            refine L_r (r_pf rfl rfl) ?_
            refine L_nil ?_
            refine W_if rfl (fun h105 => ?_) (fun h105 => ?_)
            · refine W_seq ?_
              refine W_region ?_
              refine L_r (r_loadrow Tryd.underlying63 rfl rfl Bk.au (by first | rfl | assumption)) ?_
              refine L_r (r_ms rfl) ?_
              refine L_storerow (.plain rfl) rfl rfl Bk.au (by first | rfl | (simp; done) | assumption) (by first | rfl | assumption) (by first | rfl | (simp [Value.oneCell']; done) | assumption) (fun w13 hb13 hs13 c13 => ?_)
              refine L_r (r_as rfl) ?_
              refine L_r (r_ai rfl) ?_
              refine L_nil ?_
              refine W_ret ?_
              refine r_ret_ctt rfl rfl Tryd.underlying63 rfl Bk.au (by first | rfl | assumption) (show _ = (.string _ : Value) from rfl) (show _ = (.int _ _ : Value) from rfl) ?_
              first
              | exact ⟨getV_ok (rd_0 hN h71), Ch.au⟩
              | exact ⟨getV_okf (f := ⟨kind, most, 0, 0 - (v : Int) / 2 - 1, false, sb []⟩) (rd_1 hN h75) (congrArg (fun x => (⟨kind, most, 0, x, false, sb []⟩ : Fld)) (zag_odd h83)), Ch.au⟩
              | exact ⟨getV_okf (f := ⟨kind, most, 0, (v : Int) / 2, false, sb []⟩) (rd_1 hN h75) (congrArg (fun x => (⟨kind, most, 0, x, false, sb []⟩ : Fld)) (zag_even h83)), Ch.au⟩
              | exact ⟨getV_err (rd_2e hN h89 (.inl h93)) (by decide), Ch.au⟩
              | exact ⟨getV_err (rd_2e hN h89 (.inr (.inl h99))) (by decide), Ch.au⟩
              | exact ⟨getV_err (rd_2e hN h89 (.inr (.inr (by rw [bs_length]; omega)))) (by decide), Ch.au⟩
              | exact ⟨getV_ok (rd_2 hN h89 (by rw [bs_length]; omega)), Ch.au⟩
              | exact ⟨getV_err ((congrArg (·.1) (rd_t h3 h71 h75 h89)).trans (tx_big hN (by omega))) (by decide), Ch.au⟩
              | exact ⟨getV_err ((congrArg (·.1) (rd_t h3 h71 h75 h89)).trans (tx_short hN (by omega) (by rw [bs_length]; omega))) (by decide), Ch.au⟩
              | exact ⟨getV_err ((congrArg (·.1) (rd_t h3 h71 h75 h89)).trans (tx_form hN (by omega) (by rw [bs_length]; omega) h61)) (by decide), Ch.au⟩
              | exact ⟨getV_text h3 h71 h75 h89 hN (by omega) (by rw [bs_length]; omega) h61, Ch.au⟩
            · refine W_skip ?_
              refine W_region ?_
              refine L_r (r_mi rfl) ?_
              refine L_r (r_fieldb Tryd.underlying63 rfl (show _ = some 1 from rfl) rfl rfl (show _ = 2 from rfl)) ?_
              refine L_set (.plain rfl) rfl Bk.au (r_store (v := .int _ _) rfl rfl rfl rfl Bk.au (by first | decide | (simp; done) | omega)) (fun w14 hb14 hs14 c14 => ?_)
              try simp only [List.setIfInBounds_toArray, List.set_cons_zero, List.set_cons_succ] at hb14
              refine L_nil ?_
              refine W_seq ?_
              refine W_region ?_
              refine L_r (r_loadrow Tryd.underlying63 rfl rfl Bk.au (by first | rfl | assumption)) ?_
              refine L_r (r_ms rfl) ?_
              refine L_storerow (.plain rfl) rfl rfl Bk.au (by first | rfl | (simp; done) | assumption) (by first | rfl | assumption) (by first | rfl | (simp [Value.oneCell']; done) | assumption) (fun w15 hb15 hs15 c15 => ?_)
              refine L_r (r_as rfl) ?_
              refine L_r (r_ai rfl) ?_
              refine L_nil ?_
              refine W_ret ?_
              refine r_ret_ctt rfl rfl Tryd.underlying63 rfl Bk.au (by first | rfl | assumption) (show _ = (.string _ : Value) from rfl) (show _ = (.int _ _ : Value) from rfl) ?_
              first
              | exact ⟨getV_ok (rd_0 hN h71), Ch.au⟩
              | exact ⟨getV_okf (f := ⟨kind, most, 0, 0 - (v : Int) / 2 - 1, false, sb []⟩) (rd_1 hN h75) (congrArg (fun x => (⟨kind, most, 0, x, false, sb []⟩ : Fld)) (zag_odd h83)), Ch.au⟩
              | exact ⟨getV_okf (f := ⟨kind, most, 0, (v : Int) / 2, false, sb []⟩) (rd_1 hN h75) (congrArg (fun x => (⟨kind, most, 0, x, false, sb []⟩ : Fld)) (zag_even h83)), Ch.au⟩
              | exact ⟨getV_err (rd_2e hN h89 (.inl h93)) (by decide), Ch.au⟩
              | exact ⟨getV_err (rd_2e hN h89 (.inr (.inl h99))) (by decide), Ch.au⟩
              | exact ⟨getV_err (rd_2e hN h89 (.inr (.inr (by rw [bs_length]; omega)))) (by decide), Ch.au⟩
              | exact ⟨getV_ok (rd_2 hN h89 (by rw [bs_length]; omega)), Ch.au⟩
              | exact ⟨getV_err ((congrArg (·.1) (rd_t h3 h71 h75 h89)).trans (tx_big hN (by omega))) (by decide), Ch.au⟩
              | exact ⟨getV_err ((congrArg (·.1) (rd_t h3 h71 h75 h89)).trans (tx_short hN (by omega) (by rw [bs_length]; omega))) (by decide), Ch.au⟩
              | exact ⟨getV_err ((congrArg (·.1) (rd_t h3 h71 h75 h89)).trans (tx_form hN (by omega) (by rw [bs_length]; omega) h61)) (by decide), Ch.au⟩
              | exact ⟨getV_text h3 h71 h75 h89 hN (by omega) (by rw [bs_length]; omega) h61, Ch.au⟩
      · refine W_seq ?_
        refine W_seq ?_
        refine W_region ?_
        refine L_r (r_mi rfl) ?_
        refine L_r (r_gtr rfl rfl) ?_
        refine L_nil ?_
        refine W_if rfl (fun h47 => ?_) (fun h47 => ?_)
        · refine W_seq ?_
          refine W_region ?_
          refine L_r (r_loadrow Tryd.underlying63 rfl rfl Bk.au (by first | rfl | assumption)) ?_
          refine L_r (r_ms rfl) ?_
          refine L_storerow (.plain rfl) rfl rfl Bk.au (by first | rfl | (simp; done) | assumption) (by first | rfl | assumption) (by first | rfl | (simp [Value.oneCell']; done) | assumption) (fun w16 hb16 hs16 c16 => ?_)
          refine L_r (r_as rfl) ?_
          refine L_r (r_ai rfl) ?_
          refine L_nil ?_
          refine W_ret ?_
          refine r_ret_ctt rfl rfl Tryd.underlying63 rfl Bk.au (by first | rfl | assumption) (show _ = (.string _ : Value) from rfl) (show _ = (.int _ _ : Value) from rfl) ?_
          first
          | exact ⟨getV_ok (rd_0 hN h71), Ch.au⟩
          | exact ⟨getV_okf (f := ⟨kind, most, 0, 0 - (v : Int) / 2 - 1, false, sb []⟩) (rd_1 hN h75) (congrArg (fun x => (⟨kind, most, 0, x, false, sb []⟩ : Fld)) (zag_odd h83)), Ch.au⟩
          | exact ⟨getV_okf (f := ⟨kind, most, 0, (v : Int) / 2, false, sb []⟩) (rd_1 hN h75) (congrArg (fun x => (⟨kind, most, 0, x, false, sb []⟩ : Fld)) (zag_even h83)), Ch.au⟩
          | exact ⟨getV_err (rd_2e hN h89 (.inl h93)) (by decide), Ch.au⟩
          | exact ⟨getV_err (rd_2e hN h89 (.inr (.inl h99))) (by decide), Ch.au⟩
          | exact ⟨getV_err (rd_2e hN h89 (.inr (.inr (by rw [bs_length]; omega)))) (by decide), Ch.au⟩
          | exact ⟨getV_ok (rd_2 hN h89 (by rw [bs_length]; omega)), Ch.au⟩
          | exact ⟨getV_err ((congrArg (·.1) (rd_t h3 h71 h75 h89)).trans (tx_big hN (by omega))) (by decide), Ch.au⟩
          | exact ⟨getV_err ((congrArg (·.1) (rd_t h3 h71 h75 h89)).trans (tx_short hN (by omega) (by rw [bs_length]; omega))) (by decide), Ch.au⟩
          | exact ⟨getV_err ((congrArg (·.1) (rd_t h3 h71 h75 h89)).trans (tx_form hN (by omega) (by rw [bs_length]; omega) h61)) (by decide), Ch.au⟩
          | exact ⟨getV_text h3 h71 h75 h89 hN (by omega) (by rw [bs_length]; omega) h61, Ch.au⟩
        · refine W_skip ?_
          refine W_seq ?_
          refine W_seq ?_
          refine W_region ?_
          refine L_r (r_mi rfl) ?_
          refine L_r (r_ms rfl) ?_
          refine L_r (r_lens Tryd.underlying9 rfl) ?_
          refine L_r (r_conv Tryd.underlying3 Tryd.underlying61 rfl (by first | exact wr_u64 (by omega) | rfl)) ?_
          refine L_r (r_gtr rfl rfl) ?_
          refine L_nil ?_
          refine W_if rfl (fun h54 => ?_) (fun h54 => ?_)
          · refine W_seq ?_
            refine W_region ?_
            refine L_r (r_loadrow Tryd.underlying63 rfl rfl Bk.au (by first | rfl | assumption)) ?_
            refine L_r (r_ms rfl) ?_
            refine L_storerow (.plain rfl) rfl rfl Bk.au (by first | rfl | (simp; done) | assumption) (by first | rfl | assumption) (by first | rfl | (simp [Value.oneCell']; done) | assumption) (fun w17 hb17 hs17 c17 => ?_)
            refine L_r (r_as rfl) ?_
            refine L_r (r_ai rfl) ?_
            refine L_nil ?_
            refine W_ret ?_
            refine r_ret_ctt rfl rfl Tryd.underlying63 rfl Bk.au (by first | rfl | assumption) (show _ = (.string _ : Value) from rfl) (show _ = (.int _ _ : Value) from rfl) ?_
            first
            | exact ⟨getV_ok (rd_0 hN h71), Ch.au⟩
            | exact ⟨getV_okf (f := ⟨kind, most, 0, 0 - (v : Int) / 2 - 1, false, sb []⟩) (rd_1 hN h75) (congrArg (fun x => (⟨kind, most, 0, x, false, sb []⟩ : Fld)) (zag_odd h83)), Ch.au⟩
            | exact ⟨getV_okf (f := ⟨kind, most, 0, (v : Int) / 2, false, sb []⟩) (rd_1 hN h75) (congrArg (fun x => (⟨kind, most, 0, x, false, sb []⟩ : Fld)) (zag_even h83)), Ch.au⟩
            | exact ⟨getV_err (rd_2e hN h89 (.inl h93)) (by decide), Ch.au⟩
            | exact ⟨getV_err (rd_2e hN h89 (.inr (.inl h99))) (by decide), Ch.au⟩
            | exact ⟨getV_err (rd_2e hN h89 (.inr (.inr (by rw [bs_length]; omega)))) (by decide), Ch.au⟩
            | exact ⟨getV_ok (rd_2 hN h89 (by rw [bs_length]; omega)), Ch.au⟩
            | exact ⟨getV_err ((congrArg (·.1) (rd_t h3 h71 h75 h89)).trans (tx_big hN (by omega))) (by decide), Ch.au⟩
            | exact ⟨getV_err ((congrArg (·.1) (rd_t h3 h71 h75 h89)).trans (tx_short hN (by omega) (by rw [bs_length]; omega))) (by decide), Ch.au⟩
            | exact ⟨getV_err ((congrArg (·.1) (rd_t h3 h71 h75 h89)).trans (tx_form hN (by omega) (by rw [bs_length]; omega) h61)) (by decide), Ch.au⟩
            | exact ⟨getV_text h3 h71 h75 h89 hN (by omega) (by rw [bs_length]; omega) h61, Ch.au⟩
          · refine W_skip ?_
            refine W_seq ?_
            refine W_seq ?_
            refine W_region ?_
            refine L_r (r_ms rfl) ?_
            refine L_r (r_mi rfl) ?_
            refine L_r (r_slices_h Tryd.underlying9 rfl rfl (by omega) (by omega)) ?_
            refine L_call (.plain rfl) rfl rfl (r_call Tryd.func26 rfl rfl rfl (by rfl)) (whole_walk _ _) ?_
            rintro v60 w18 ⟨rfl, c18⟩
            have hz18 := c18.size
            refine L_r (r_not rfl) ?_
            refine L_nil ?_
            refine W_bool rfl (fun h61 => ?_) (fun h61 => ?_)
            · refine W_seq ?_
              refine W_region ?_
              refine L_r (r_loadrow Tryd.underlying63 rfl rfl Bk.au (by first | rfl | assumption)) ?_
              refine L_r (r_ms rfl) ?_
              refine L_storerow (.plain rfl) rfl rfl Bk.au (by first | rfl | (simp; done) | assumption) (by first | rfl | assumption) (by first | rfl | (simp [Value.oneCell']; done) | assumption) (fun w19 hb19 hs19 c19 => ?_)
              refine L_r (r_as rfl) ?_
              refine L_r (r_ai rfl) ?_
              refine L_nil ?_
              refine W_ret ?_
              refine r_ret_ctt rfl rfl Tryd.underlying63 rfl Bk.au (by first | rfl | assumption) (show _ = (.string _ : Value) from rfl) (show _ = (.int _ _ : Value) from rfl) ?_
              first
              | exact ⟨getV_ok (rd_0 hN h71), Ch.au⟩
              | exact ⟨getV_okf (f := ⟨kind, most, 0, 0 - (v : Int) / 2 - 1, false, sb []⟩) (rd_1 hN h75) (congrArg (fun x => (⟨kind, most, 0, x, false, sb []⟩ : Fld)) (zag_odd h83)), Ch.au⟩
              | exact ⟨getV_okf (f := ⟨kind, most, 0, (v : Int) / 2, false, sb []⟩) (rd_1 hN h75) (congrArg (fun x => (⟨kind, most, 0, x, false, sb []⟩ : Fld)) (zag_even h83)), Ch.au⟩
              | exact ⟨getV_err (rd_2e hN h89 (.inl h93)) (by decide), Ch.au⟩
              | exact ⟨getV_err (rd_2e hN h89 (.inr (.inl h99))) (by decide), Ch.au⟩
              | exact ⟨getV_err (rd_2e hN h89 (.inr (.inr (by rw [bs_length]; omega)))) (by decide), Ch.au⟩
              | exact ⟨getV_ok (rd_2 hN h89 (by rw [bs_length]; omega)), Ch.au⟩
              | exact ⟨getV_err ((congrArg (·.1) (rd_t h3 h71 h75 h89)).trans (tx_big hN (by omega))) (by decide), Ch.au⟩
              | exact ⟨getV_err ((congrArg (·.1) (rd_t h3 h71 h75 h89)).trans (tx_short hN (by omega) (by rw [bs_length]; omega))) (by decide), Ch.au⟩
              | exact ⟨getV_err ((congrArg (·.1) (rd_t h3 h71 h75 h89)).trans (tx_form hN (by omega) (by rw [bs_length]; omega) h61)) (by decide), Ch.au⟩
              | exact ⟨getV_text h3 h71 h75 h89 hN (by omega) (by rw [bs_length]; omega) h61, Ch.au⟩
            · refine W_skip ?_
              refine W_draw (fun _ => True) 9 (m := 9) (by kernel_rfl) rfl (fun w20 c20 hs20 => ?_)
              refine held (by trivial) (fun hS => ?_)
              refine D_t 0 rfl (fun W hW => r_ms rfl) ?_
              refine D_t 1 rfl (fun W hW => r_mi rfl) ?_
              refine D_t 2 rfl (fun W hW => r_slices_h Tryd.underlying9 rfl rfl (by omega) (by omega)) ?_
              refine D_t 3 rfl (fun W hW => r_ms rfl) ?_
              refine D_t 4 rfl (fun W hW => r_mi rfl) ?_
              refine D_t 5 rfl (fun W hW => r_slices_l Tryd.underlying9 rfl rfl (by omega) (by omega)) ?_
              refine D_t 6 rfl (fun W hW => r_fieldb Tryd.underlying63 rfl (show _ = some 1 from rfl) rfl rfl (show _ = 5 from rfl)) ?_
              refine D_ev 7 (by kernel_rfl) rfl ?_
              refine L_set (.plain rfl) rfl Bk.au (r_store (v := .string _) rfl rfl rfl rfl Bk.au (by first | decide | (simp; done) | omega)) (fun w21 hb21 hs21 c21 => ?_)
              try simp only [List.setIfInBounds_toArray, List.set_cons_zero, List.set_cons_succ] at hb21
              refine L_nil ?_
              refine heldK (by trivial) (fun hS => ?_)
              refine D_t 8 rfl (fun W hW => r_as rfl) ?_
              refine D_done (by kernel_rfl) ?_
              refine W_seq ?_
              refine W_region ?_
              refine L_r (r_loadrow Tryd.underlying63 rfl rfl Bk.au (by first | rfl | assumption)) ?_
              refine L_r (r_ms rfl) ?_
              refine L_storerow (.plain rfl) rfl rfl Bk.au (by first | rfl | (simp; done) | assumption) (by first | rfl | assumption) (by first | rfl | (simp [Value.oneCell']; done) | assumption) (fun w22 hb22 hs22 c22 => ?_)
              refine L_r (r_as rfl) ?_
              refine L_r (r_ai rfl) ?_
              refine L_nil ?_
              refine W_ret ?_
              refine r_ret_ctt rfl rfl Tryd.underlying63 rfl Bk.au (by first | rfl | assumption) (show _ = (.string _ : Value) from rfl) (show _ = (.int _ _ : Value) from rfl) ?_
              first
              | exact ⟨getV_ok (rd_0 hN h71), Ch.au⟩
              | exact ⟨getV_okf (f := ⟨kind, most, 0, 0 - (v : Int) / 2 - 1, false, sb []⟩) (rd_1 hN h75) (congrArg (fun x => (⟨kind, most, 0, x, false, sb []⟩ : Fld)) (zag_odd h83)), Ch.au⟩
              | exact ⟨getV_okf (f := ⟨kind, most, 0, (v : Int) / 2, false, sb []⟩) (rd_1 hN h75) (congrArg (fun x => (⟨kind, most, 0, x, false, sb []⟩ : Fld)) (zag_even h83)), Ch.au⟩
              | exact ⟨getV_err (rd_2e hN h89 (.inl h93)) (by decide), Ch.au⟩
              | exact ⟨getV_err (rd_2e hN h89 (.inr (.inl h99))) (by decide), Ch.au⟩
              | exact ⟨getV_err (rd_2e hN h89 (.inr (.inr (by rw [bs_length]; omega)))) (by decide), Ch.au⟩
              | exact ⟨getV_ok (rd_2 hN h89 (by rw [bs_length]; omega)), Ch.au⟩
              | exact ⟨getV_err ((congrArg (·.1) (rd_t h3 h71 h75 h89)).trans (tx_big hN (by omega))) (by decide), Ch.au⟩
              | exact ⟨getV_err ((congrArg (·.1) (rd_t h3 h71 h75 h89)).trans (tx_short hN (by omega) (by rw [bs_length]; omega))) (by decide), Ch.au⟩
              | exact ⟨getV_err ((congrArg (·.1) (rd_t h3 h71 h75 h89)).trans (tx_form hN (by omega) (by rw [bs_length]; omega) h61)) (by decide), Ch.au⟩
              | exact ⟨getV_text h3 h71 h75 h89 hN (by omega) (by rw [bs_length]; omega) h61, Ch.au⟩
theorem rget_walk (kind most : Int) (s : ByteArray) (w0 : World) (hm : -9223372036854775808 ≤ most ∧ most ≤ 9223372036854775807) (hs : s.size ≤ 100000000) :
    Does Tryd.prog 35 #[.int .i64 kind, .int .i64 most, .string s] w0 fun r w' => r = getV kind most s ∧ Nw w0 w' := by
  by_cases h3 : kind = 3
  · subst h3; exact rget_flag most s w0
  · by_cases hN : (numL 0 (bs s)).1 = 0
    · exact rget_good kind most s (numL 0 (bs s)).2.1 (numL 0 (bs s)).2.2 w0 h3 (Prod.ext hN rfl) hm hs
    · exact rget_bad kind most s _ w0 h3 rfl hN
/-- What the reader gives, where it stands at a. -/
def gotF (s : Nat × Int) (kind most : Int) (m : List UInt8) : Fld := if s.2 = 0 ∧ (rdF kind most m).1 = 0 then (rdF kind most m).2.1 else Fld.none kind most
section
variable {kind most : Int} {m : List UInt8} {st : Nat × Int}
theorem gotF_n {X : Int × Nat × Nat} (h : rdF kind most m = (X.1, { Fld.none kind most with n := X.2.1 }, X.2.2)) : (⟨kind, most, got st X.1 X.2.1 0, 0, false, sb []⟩ : Fld) = gotF st kind most m := by
  unfold gotF got; rw [h]; split <;> rfl
theorem gotF_i {X : Int × Nat × Nat} (h : rdF kind most m = (X.1, { Fld.none kind most with i := zagI (X.2.1 : Nat) }, X.2.2)) : (⟨kind, most, 0, zagI (got st X.1 X.2.1 0 : Nat), false, sb []⟩ : Fld) = gotF st kind most m := by
  unfold gotF got; rw [h]; split <;> rfl
theorem gotF_y {X : Int × Bool × Nat} (h : rdF kind most m = (X.1, { Fld.none kind most with yes := X.2.1 }, X.2.2)) : (⟨kind, most, 0, 0, got st X.1 X.2.1 false, sb []⟩ : Fld) = gotF st kind most m := by
  unfold gotF got; rw [h]; split <;> rfl
theorem gotF_s {X : Int × List UInt8 × Nat} (h : rdF kind most m = (X.1, { Fld.none kind most with s := sb X.2.1 }, X.2.2)) : (⟨kind, most, 0, 0, false, sb (got st X.1 X.2.1 [])⟩ : Fld) = gotF st kind most m := by
  unfold gotF got; rw [h]; split <;> rfl
theorem nx_n {β : Type} {X : Int × β × Nat} {f : Fld} (h : rdF kind most m = (X.1, f, X.2.2)) : nxt st X.1 X.2.2 = nxt st (rdF kind most m).1 (rdF kind most m).2.2 := by rw [h]
theorem rk_0 (k0 : kind = 0) : rdF kind most m = ((numL 0 m).1, { Fld.none kind most with n := (numL 0 m).2.1 }, (numL 0 m).2.2) := by
  unfold rdF; rw [if_neg (by omega), if_pos k0]
theorem rk_1 (k1 : kind = 1) : rdF kind most m = ((numL 0 m).1, { Fld.none kind most with i := zagI ((numL 0 m).2.1 : Nat) }, (numL 0 m).2.2) := by
  unfold rdF; rw [if_neg (by omega), if_neg (by omega), if_pos k1]
theorem rk_2 (k2 : kind = 2) : rdF kind most m = ((countR most m).1, { Fld.none kind most with n := (countR most m).2.1 }, (countR most m).2.2) := by
  unfold rdF; rw [if_neg (by omega), if_neg (by omega), if_neg (by omega), if_pos k2]
theorem rk_3 (k3 : kind = 3) : rdF kind most m = ((flagR m).1, { Fld.none kind most with yes := (flagR m).2.1 }, (flagR m).2.2) := by
  unfold rdF; rw [if_pos k3]
end
theorem count_bd {l : List UInt8} {a : Nat} {e : Int} (most : Int) (hl : l.length ≤ 100000000) : got (a, e) (countR most (l.drop a)).1 (countR most (l.drop a)).2.1 0 ≤ 100000000 := by
  unfold got
  split
  · rename_i h
    have := countR_le h.2
    rw [List.length_drop] at this
    omega
  · omega
end Go.Proofs.YtioonbfinnigpaaDoor

