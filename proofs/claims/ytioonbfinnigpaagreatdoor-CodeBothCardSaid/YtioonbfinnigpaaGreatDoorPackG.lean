/- A field: read by the document, read by the reader; walked. -/
import Derived.Test.YtioonbfinnigpaaGreatDoorRef01n
namespace Go.Proofs.YtioonbfinnigpaaGreatDoor
open Go Go.RowKit
set_option linter.unusedVariables false
set_option maxRecDepth 100000
set_option linter.unusedSimpArgs false
structure Fld where
  kind : Int
  most : Int
  n : Nat
  i : Int
  yes : Bool
  s : ByteArray
instance : Inhabited Fld := ⟨⟨0, 0, 0, 0, false, ByteArray.empty⟩⟩
def Fld.v (f : Fld) : Value := .agg #[.int .i64 f.kind, .int .i64 f.most, .int .u64 f.n, .int .i64 f.i, .bool f.yes, .string f.s]
/-- Nothing is read. -/
def Fld.none (kind most : Int) : Fld := ⟨kind, most, 0, 0, false, sb []⟩
/-- A field that bytes begin with: the error, the field, how many bytes. -/
def rdF (kind most : Int) (l : List UInt8) : Int × Fld × Nat :=
  if kind = 3 then ((flagR l).1, { Fld.none kind most with yes := (flagR l).2.1 }, (flagR l).2.2)
  else if kind = 0 then ((numL 0 l).1, { Fld.none kind most with n := (numL 0 l).2.1 }, (numL 0 l).2.2)
  else if kind = 1 then ((numL 0 l).1, { Fld.none kind most with i := zagI ((numL 0 l).2.1 : Nat) }, (numL 0 l).2.2)
  else if kind = 2 then ((countR most l).1, { Fld.none kind most with n := (countR most l).2.1 }, (countR most l).2.2)
  else ((textR l).1, { Fld.none kind most with s := sb (textR l).2.1 }, (textR l).2.2)
/-- What the document's reading gives. -/
def getV (kind most : Int) (s : ByteArray) : Value := if (rdF kind most (bs s)).1 = 0 then .tuple #[(rdF kind most (bs s)).2.1.v, .string (s.extract (rdF kind most (bs s)).2.2 s.size), .int .i64 0] else .tuple #[(Fld.none kind most).v, .string s, .int .i64 (rdF kind most (bs s)).1]
theorem getV_ok {kind most : Int} {s : ByteArray} {f : Fld} {k : Nat} (h : rdF kind most (bs s) = (0, f, k)) : Value.tuple #[f.v, .string (s.extract k s.size), .int .i64 0] = getV kind most s := by rw [getV, h, if_pos rfl]
theorem getV_err {kind most : Int} {s : ByteArray} {e : Int} (h : (rdF kind most (bs s)).1 = e) (he : e ≠ 0) : Value.tuple #[(Fld.none kind most).v, .string s, .int .i64 e] = getV kind most s := by rw [getV, h, if_neg he]
theorem bs_head {s : ByteArray} (h : 0 < s.size) : ∃ t, bs s = bat s 0 :: t := by
  cases e : bs s with
  | nil => rw [← bs_length, e] at h; exact absurd h (by decide)
  | cons c t => exact ⟨t, by unfold bat; rw [e]; rfl⟩
theorem rd_flag (most : Int) (l : List UInt8) : rdF 3 most l = ((flagR l).1, { Fld.none 3 most with yes := (flagR l).2.1 }, (flagR l).2.2) := if_pos rfl
theorem flag_e0 (most : Int) {s : ByteArray} (h : s = { data := #[] }) : (rdF 3 most (bs s)).1 = 10 := by rw [rd_flag, h]; rfl
theorem flag_e1 (most : Int) {s : ByteArray} (h0 : 0 < s.size) (h : 1 < ((bat s 0).toNat : Int)) : (rdF 3 most (bs s)).1 = 11 := by
  obtain ⟨t, e⟩ := bs_head h0
  rw [rd_flag, e, flagR, if_pos (by omega)]
theorem flag_ok (most : Int) {s : ByteArray} (h0 : 0 < s.size) (h : ¬ 1 < ((bat s 0).toNat : Int)) : rdF 3 most (bs s) = (0, { Fld.none 3 most with yes := decide (((bat s 0).toNat : Int) = 1) }, 1) := by
  obtain ⟨t, e⟩ := bs_head h0
  rw [rd_flag, e, flagR, if_neg (by omega)]
  have e2 : decide ((bat s 0).toNat = 1) = decide (((bat s 0).toNat : Int) = 1) := decide_eq_decide.2 (by omega)
  rw [e2]
section
variable {kind most : Int} {l : List UInt8} {e : Int} {v n : Nat}
theorem rd_bad (h3 : ¬ kind = 3) (hN : (numL 0 l).1 = e) (he : e ≠ 0) : (rdF kind most l).1 = e := by
  unfold rdF
  rw [if_neg h3]
  split
  · exact hN
  split
  · exact hN
  split
  · unfold countR
    rw [if_neg (fun h => he (hN.symm.trans h.1))]; exact hN
  · rw [textR_err (by rw [hN]; exact he)]; exact hN
theorem rd_0 (hN : numL 0 l = (0, v, n)) (k0 : kind = 0) : rdF kind most l = (0, { Fld.none kind most with n := v }, n) := by
  unfold rdF; rw [if_neg (by omega), if_pos k0, hN]
theorem rd_1 (hN : numL 0 l = (0, v, n)) (k1 : kind = 1) : rdF kind most l = (0, { Fld.none kind most with i := zagI (v : Int) }, n) := by
  unfold rdF; rw [if_neg (by omega), if_neg (by omega), if_pos k1, hN]
theorem rd_2e (hN : numL 0 l = (0, v, n)) (k2 : kind = 2) (h : most < 0 ∨ most < v ∨ l.length - n < v) : (rdF kind most l).1 = 12 := by
  unfold rdF; rw [if_neg (by omega), if_neg (by omega), if_neg (by omega), if_pos k2]
  unfold countR
  rw [hN, if_pos ⟨rfl, h⟩]
theorem rd_2 (hN : numL 0 l = (0, v, n)) (k2 : kind = 2) (h : ¬ (most < 0 ∨ most < v ∨ l.length - n < v)) : rdF kind most l = (0, { Fld.none kind most with n := v }, n) := by
  unfold rdF; rw [if_neg (by omega), if_neg (by omega), if_neg (by omega), if_pos k2]
  unfold countR
  rw [hN, if_neg (fun h' => h h'.2)]
theorem rd_t (h3 : ¬ kind = 3) (k0 : ¬ kind = 0) (k1 : ¬ kind = 1) (k2 : ¬ kind = 2) : rdF kind most l = ((textR l).1, { Fld.none kind most with s := sb (textR l).2.1 }, (textR l).2.2) := by
  unfold rdF; rw [if_neg h3, if_neg k0, if_neg k1, if_neg k2]
theorem numL_in : ∀ (l : List UInt8) (i : Nat), (numL i l).1 = 0 → (numL i l).2.2 ≤ l.length
  | [], i, h => by simp [numL] at h
  | c :: t, i, h => by
    unfold numL at h ⊢
    split
    · simp
    · rename_i h1
      rw [if_neg h1] at h
      split
      · split <;> simp
      · rename_i h2
        rw [if_neg h2] at h
        have := numL_in t (i + 1) h
        simpa using this
end
section
variable {l : List UInt8} {v n : Nat} {s : ByteArray} {kind most : Int}
theorem getV_okf {f f' : Fld} {k : Nat} (h : rdF kind most (bs s) = (0, f', k)) (e : f = f') : Value.tuple #[f.v, .string (s.extract k s.size), .int .i64 0] = getV kind most s := by rw [e]; exact getV_ok h
theorem zag_odd (h : (v : Int) % 2 = 1) : 0 - (v : Int) / 2 - 1 = zagI v := by unfold zagI; rw [if_neg (by omega)]; omega
theorem zag_even (h : ¬ (v : Int) % 2 = 1) : (v : Int) / 2 = zagI v := by unfold zagI; rw [if_pos (by omega)]
theorem tx_big (hN : numL 0 l = (0, v, n)) (h : 4096 < v) : (textR l).1 = 12 := by rw [textR_big (by rw [hN]; simp) (by rw [hN]; exact h)]
theorem tx_short (hN : numL 0 l = (0, v, n)) (h : ¬ 4096 < v) (h2 : l.length - n < v) : (textR l).1 = 10 := by rw [textR_short (by rw [hN]; simp) (by rw [hN]; exact h) (by rw [hN]; exact h2)]
theorem bs_cut (s : ByteArray) (n v : Nat) : bs ((s.extract n s.size).extract 0 v) = ((bs s).drop n).take v := by rw [bs_extract_h, bs_extract_l]
theorem tx_form (hN : numL 0 (bs s) = (0, v, n)) (h : ¬ 4096 < v) (h2 : ¬ (bs s).length - n < v) (h3 : (!Lib.validD (bs ((s.extract n s.size).extract 0 (v : Int).toNat))) = true) : (textR (bs s)).1 = 11 := by
  rw [Int.toNat_natCast, bs_cut] at h3
  rw [textR_form (by rw [hN]; simp) (by rw [hN]; exact h) (by rw [hN]; exact h2) (by rw [hN]; simpa using h3)]
theorem tx_ok (hN : numL 0 (bs s) = (0, v, n)) (h : ¬ 4096 < v) (h2 : ¬ (bs s).length - n < v) (h3 : (!Lib.validD (bs ((s.extract n s.size).extract 0 (v : Int).toNat))) = false) : textR (bs s) = (0, ((bs s).drop n).take v, n + v) := by
  rw [Int.toNat_natCast, bs_cut] at h3
  rw [textR_good (by rw [hN]; simp) (by rw [hN]; exact h) (by rw [hN]; exact h2) (by rw [hN]; simpa using h3), hN]
theorem getV_text (h3 : ¬ kind = 3) (k0 : ¬ kind = 0) (k1 : ¬ kind = 1) (k2 : ¬ kind = 2) (hN : numL 0 (bs s) = (0, v, n)) (h : ¬ 4096 < v) (h2 : ¬ (bs s).length - n < v) (h4 : (!Lib.validD (bs ((s.extract n s.size).extract 0 (v : Int).toNat))) = false) :
    Value.tuple #[.agg #[.int .i64 kind, .int .i64 most, .int .u64 0, .int .i64 0, .bool false, .string ((s.extract n s.size).extract 0 (v : Int).toNat)], .string ((s.extract n s.size).extract (v : Int).toNat (s.extract n s.size).size), .int .i64 0] = getV kind most s := by
  have e1 : (s.extract n s.size).extract 0 v = sb (((bs s).drop n).take v) := bs_inj.1 (by rw [bs_cut, bs_sb])
  have e2 : (s.extract n s.size).extract v (s.extract n s.size).size = s.extract (n + v) s.size := bs_inj.1 (by rw [bs_extract_l, bs_extract_l, bs_extract_l, List.drop_drop])
  have e3 := rd_t (most := most) (l := bs s) h3 k0 k1 k2
  rw [tx_ok hN h h2 h4] at e3
  rw [Int.toNat_natCast, e1, e2]
  exact getV_ok e3
end
/-- What the reader gives, where it stands at a. -/
def gotF (s : Nat × Int) (kind most : Int) (m : List UInt8) : Fld := if s.2 = 0 ∧ (rdF kind most m).1 = 0 then (rdF kind most m).2.1 else Fld.none kind most
section
variable {kind most : Int} {m : List UInt8} {st : Nat × Int}
theorem gotF_n {X : Int × Nat × Nat} (h : rdF kind most m = (X.1, { Fld.none kind most with n := X.2.1 }, X.2.2)) : (⟨kind, most, got st X.1 X.2.1 0, 0, false, sb []⟩ : Fld) = gotF st kind most m := by
  unfold gotF got; rw [h]; split <;> rfl
theorem gotF_i {X : Int × Nat × Nat} (h : rdF kind most m = (X.1, { Fld.none kind most with i := zagI (X.2.1 : Nat) }, X.2.2)) : (⟨kind, most, 0, zagI (got st X.1 X.2.1 0 : Nat), false, sb []⟩ : Fld) = gotF st kind most m := by
  unfold gotF got; rw [h]; split <;> rfl
theorem gotF_y {X : Int × Bool × Nat} (h : rdF kind most m = (X.1, { Fld.none kind most with yes := X.2.1 }, X.2.2)) : (⟨kind, most, 0, 0, got st X.1 X.2.1 false, sb []⟩ : Fld) = gotF st kind most m := by
  unfold gotF got; rw [h]; split <;> rfl
theorem gotF_s {X : Int × List UInt8 × Nat} (h : rdF kind most m = (X.1, { Fld.none kind most with s := sb X.2.1 }, X.2.2)) : (⟨kind, most, 0, 0, false, sb (got st X.1 X.2.1 [])⟩ : Fld) = gotF st kind most m := by
  unfold gotF got; rw [h]; split <;> rfl
theorem nx_n {β : Type} {X : Int × β × Nat} {f : Fld} (h : rdF kind most m = (X.1, f, X.2.2)) : nxt st X.1 X.2.2 = nxt st (rdF kind most m).1 (rdF kind most m).2.2 := by rw [h]
theorem rk_0 (k0 : kind = 0) : rdF kind most m = ((numL 0 m).1, { Fld.none kind most with n := (numL 0 m).2.1 }, (numL 0 m).2.2) := by
  unfold rdF; rw [if_neg (by omega), if_pos k0]
theorem rk_1 (k1 : kind = 1) : rdF kind most m = ((numL 0 m).1, { Fld.none kind most with i := zagI ((numL 0 m).2.1 : Nat) }, (numL 0 m).2.2) := by
  unfold rdF; rw [if_neg (by omega), if_neg (by omega), if_pos k1]
theorem rk_2 (k2 : kind = 2) : rdF kind most m = ((countR most m).1, { Fld.none kind most with n := (countR most m).2.1 }, (countR most m).2.2) := by
  unfold rdF; rw [if_neg (by omega), if_neg (by omega), if_neg (by omega), if_pos k2]
theorem rk_3 (k3 : kind = 3) : rdF kind most m = ((flagR m).1, { Fld.none kind most with yes := (flagR m).2.1 }, (flagR m).2.2) := by
  unfold rdF; rw [if_pos k3]
end
theorem count_bd {l : List UInt8} {a : Nat} {e : Int} (most : Int) (hl : l.length ≤ 100000000) : got (a, e) (countR most (l.drop a)).1 (countR most (l.drop a)).2.1 0 ≤ 100000000 := by
  unfold got
  split
  · rename_i h
    have := countR_le h.2
    rw [List.length_drop] at this
    omega
  · omega
end Go.Proofs.YtioonbfinnigpaaGreatDoor

