/- The document's acts and the net's, joined. -/
import Derived.Test.YtplkjhoadnjkmaaNetDo
namespace Go.Proofs.Ytplkjhoadnjkmaa
open Go Go.RowKit
set_option linter.unusedVariables false
set_option linter.unusedSimpArgs false
open Classical in
noncomputable def firstR (l : List Int) (to : Int) : Int := if h : ∃ x, isFirst l to x then Classical.choose h else 0
theorem isFirst_one {l : List Int} {to x y : Int} (h : isFirst l to x) (h' : isFirst l to y) : x = y := by
  rcases h with ⟨rfl, h⟩ | ⟨k, rfl, h1, h2⟩
  · rcases h' with ⟨rfl, _⟩ | ⟨k, rfl, h1, _⟩
    · rfl
    · exact absurd rfl (h k to h1)
  · exact ((first_at h' k h1 fun j hj e => h2 j to hj e rfl)).symm
theorem firstR_eq {l : List Int} {to x : Int} (h : isFirst l to x) : firstR l to = x := by
  unfold firstR
  rw [dif_pos ⟨x, h⟩]
  exact isFirst_one (Classical.choose_spec (⟨x, h⟩ : ∃ x, isFirst l to x)) h
def noB : ByteArray := ByteArray.empty
/-- An act, plainly. -/
noncomputable def stp (most : Int) (R : List (Int × ByteArray)) (K to i at_ : Int) (s : ByteArray) : List (Int × ByteArray) × Int × ByteArray × Bool :=
  if K = 0 then (if 0 ≤ to ∧ to ≤ 1 ∧ (R.length : Int) < most then (R ++ [(to, s)], 0, noB, true) else (R, 0, noB, false))
  else if K = 5 then (R, firstR (R.map (·.1)) to, noB, true)
  else if 0 ≤ i ∧ i < R.length then
    (if K = 1 then (R.eraseIdx i.toNat, (R.getD i.toNat (0, noB)).1, (R.getD i.toNat (0, noB)).2, true)
    else if K = 2 then (if (R.length : Int) < most then (R ++ [R.getD i.toNat (0, noB)], 0, noB, true) else (R, 0, noB, false))
    else if K = 3 then (R.eraseIdx i.toNat, 0, noB, true)
    else (R.set i.toNat ((R.getD i.toNat (0, noB)).1, sb (turn (bs (R.getD i.toNat (0, noB)).2) at_ (bs s))), 0, noB, true))
  else (R, 0, noB, false)
theorem getD_at (R : List (Int × ByteArray)) (k : Nat) (hk : k < R.length) : R.getD k (0, noB) = R[k] := by
  rw [List.getD_eq_getElem?_getD, List.getElem?_eq_getElem hk]; rfl
theorem rdo_all (most K to i at_ : Int) (s : ByteArray) (v : Value) (R : List (Int × ByteArray)) (w0 : World) (base : Nat) (hO : Ow w0 base 65 2 v R.length (cellsR R)) (hl : R.length ≤ 1024) (hb : base ≤ w0.heap.size)
    (hK : 0 ≤ K ∧ K ≤ 5) (ha : -1000 ≤ at_ ∧ at_ ≤ 1000) (hs : s.size ≤ 300) (hR : ∀ p ∈ R, p.2.size ≤ 1000000) :
    Does Try.prog 17 #[.agg #[.int .i64 most, v], .agg #[.int .i64 K, .int .i64 to, .int .i64 i, .int .i64 at_, .string s]] w0 (fun r w' => ∃ v', r = .tuple #[.agg #[.int .i64 most, v'], .int .i64 (stp most R K to i at_ s).2.1, .string (stp most R K to i at_ s).2.2.1, .bool (stp most R K to i at_ s).2.2.2] ∧
      Ow w' base 65 2 v' (stp most R K to i at_ s).1.length (cellsR (stp most R K to i at_ s).1) ∧ Nw w0 w') := by
  have hsl := hO.sl
  by_cases h0 : K = 0
  · subst h0
    by_cases hc : 0 ≤ to ∧ to ≤ 1 ∧ (R.length : Int) < most
    · refine (do0_in most to i at_ s v R w0 hsl hl hc).mono ?_
      rintro r w' ⟨v', rfl, ho, c⟩
      refine ⟨v', by simp [stp, hc, noB], ?_, c⟩
      have : (stp most R 0 to i at_ s).1 = R ++ [(to, s)] := by simp [stp, hc]
      rw [this, List.length_append]
      exact ho.mono hb
    · refine (do0_out most to i at_ s v R w0 hsl hc).mono ?_
      rintro r w' ⟨rfl, c⟩
      have e : stp most R 0 to i at_ s = (R, 0, noB, false) := by simp [stp, hc]
      exact ⟨v, by rw [e]; rfl, by rw [e]; exact hO.nw c, c⟩
  by_cases h5 : K = 5
  · subst h5
    refine (do5 most to i at_ s v R w0 hsl hl).mono ?_
    rintro r w' ⟨x, rfl, hx, c⟩
    have e : stp most R 5 to i at_ s = (R, x, noB, true) := by simp [stp, firstR_eq hx]
    exact ⟨v, by rw [e]; rfl, by rw [e]; exact hO.nw c, c⟩
  by_cases hi : 0 ≤ i ∧ i < R.length
  · obtain ⟨k, rfl⟩ : ∃ k : Nat, i = k := ⟨i.toNat, by omega⟩
    have hk : k < R.length := by omega
    have hp := hR R[k] (List.getElem_mem hk)
    have hg := getD_at R k hk
    by_cases h1 : K = 1
    · subst h1
      refine (do1_in most to at_ k s v R w0 hsl hl hk).mono ?_
      rintro r w' ⟨v', rfl, ho, c⟩
      have e : stp most R 1 to k at_ s = (R.eraseIdx k, R[k].1, R[k].2, true) := by unfold stp; rw [if_neg (by decide), if_neg (by decide), if_pos hi, if_pos rfl, Int.toNat_natCast, hg]
      exact ⟨v', by rw [e], by rw [e]; exact ho.mono hb, c⟩
    by_cases h2 : K = 2
    · subst h2
      by_cases hm : (R.length : Int) < most
      · refine (do2_in most to at_ k s v R w0 hsl hl hk hm).mono ?_
        rintro r w' ⟨v', rfl, ho, c⟩
        have e : stp most R 2 to k at_ s = (R ++ [R[k]], 0, noB, true) := by unfold stp; rw [if_neg (by decide), if_neg (by decide), if_pos hi, if_neg (by decide), if_pos rfl, if_pos hm, Int.toNat_natCast, hg]
        exact ⟨v', by rw [e]; rfl, by rw [e, List.length_append]; exact ho.mono hb, c⟩
      · refine (do2_full most to at_ k s v R w0 hsl hk hm).mono ?_
        rintro r w' ⟨rfl, c⟩
        have e : stp most R 2 to k at_ s = (R, 0, noB, false) := by unfold stp; rw [if_neg (by decide), if_neg (by decide), if_pos hi, if_neg (by decide), if_pos rfl, if_neg hm]
        exact ⟨v, by rw [e]; rfl, by rw [e]; exact hO.nw c, c⟩
    by_cases h3 : K = 3
    · subst h3
      refine (do3_in most to at_ k s v R w0 hsl hl hk).mono ?_
      rintro r w' ⟨v', rfl, ho, c⟩
      have e : stp most R 3 to k at_ s = (R.eraseIdx k, 0, noB, true) := by unfold stp; rw [if_neg (by decide), if_neg (by decide), if_pos hi, if_neg (by decide), if_neg (by decide), if_pos rfl, Int.toNat_natCast]
      exact ⟨v', by rw [e]; rfl, by rw [e]; exact ho.mono hb, c⟩
    · have h4 : K = 4 := by omega
      subst h4
      refine (do4_in most to at_ k s v R w0 hsl hl hk (by omega) (by omega) (by omega)).mono ?_
      rintro r w' ⟨v', rfl, ho, c⟩
      have e : stp most R 4 to k at_ s = (R.set k (R[k].1, sb (turn (bs R[k].2) at_ (bs s))), 0, noB, true) := by unfold stp; rw [if_neg (by decide), if_neg (by decide), if_pos hi, if_neg (by decide), if_neg (by decide), if_neg (by decide), Int.toNat_natCast, hg]
      exact ⟨v', by rw [e]; rfl, by rw [e, List.length_set]; exact ho.mono hb, c⟩
  · refine (do_out most K to i at_ s v R w0 hsl (by omega) hi).mono ?_
    rintro r w' ⟨rfl, c⟩
    have e : stp most R K to i at_ s = (R, 0, noB, false) := by unfold stp; rw [if_neg h0, if_neg h5, if_neg hi]
    exact ⟨v, by rw [e]; rfl, by rw [e]; exact hO.nw c, c⟩
def snt (R : List (Int × ByteArray)) : List (Int × List UInt8) := R.map fun p => (p.1, bs p.2)
theorem snt_length (R : List (Int × ByteArray)) : (snt R).length = R.length := by simp [snt]
theorem snt_get (R : List (Int × ByteArray)) (k : Nat) (hk : k < R.length) (h : k < (snt R).length) : (snt R)[k] = (R[k].1, bs R[k].2) := by simp [snt]
theorem snt_fst (R : List (Int × ByteArray)) : (snt R).map (·.1) = R.map (·.1) := by simp [snt, Function.comp_def]
theorem snt_append (R Q : List (Int × ByteArray)) : snt (R ++ Q) = snt R ++ snt Q := by simp [snt]
theorem snt_erase (R : List (Int × ByteArray)) (k : Nat) : snt (R.eraseIdx k) = (snt R).eraseIdx k := by
  unfold snt
  rw [List.eraseIdx_eq_take_drop_succ, List.eraseIdx_eq_take_drop_succ, List.map_append, List.map_take, List.map_drop]
theorem snt_set (R : List (Int × ByteArray)) (k : Nat) (x : Int) (l : List UInt8) : snt (R.set k (x, sb l)) = (snt R).set k (x, l) := by
  unfold snt
  rw [List.map_set]
  simp only [bs_sb]
theorem ldo_all (most K to i at_ : Int) (s : ByteArray) (R : List (Int × ByteArray)) (w0 : World) (base b : Nat) (hN : NetAt base w0 b most (snt R)) (hl : R.length ≤ 1024) (hm : most ≤ 1024) (hb : base ≤ w0.heap.size)
    (hK : 0 ≤ K ∧ K ≤ 5) (ha : K = 4 → -1000 ≤ at_ ∧ at_ ≤ 1000) (hs : s.size ≤ 300) (hR : ∀ p ∈ R, (0 ≤ p.1 ∧ p.1 ≤ 1) ∧ p.2.size ≤ 1000000) :
    Does Try.prog 18 #[.pointer (some ⟨b, 0, none⟩), .agg #[.int .i64 K, .int .i64 to, .int .i64 i, .int .i64 at_, .string s]] w0 (fun r w' => r = .tuple #[.int .i64 (stp most R K to i at_ s).2.1, .string (stp most R K to i at_ s).2.2.1, .bool (stp most R K to i at_ s).2.2.2] ∧
      NetAt base w' b most (snt (stp most R K to i at_ s).1) ∧ NetC base w0 w') := by
  have hsn := snt_length R
  by_cases h0 : K = 0
  · subst h0
    by_cases hc : 0 ≤ to ∧ to ≤ 1 ∧ (R.length : Int) < most
    · refine (ld0_in base b most to i at_ s (snt R) w0 hN hb (by rw [hsn]; exact hc) hm (by omega)).mono ?_
      rintro r w' ⟨rfl, hN', c⟩
      have e : stp most R 0 to i at_ s = (R ++ [(to, s)], 0, noB, true) := by unfold stp; rw [if_pos rfl, if_pos hc]
      exact ⟨by rw [e]; rfl, by rw [e, snt_append]; exact hN', c⟩
    · refine (ld0_out base b most to i at_ s (snt R) w0 hN hb (by rw [hsn]; exact hc) (by omega)).mono ?_
      rintro r w' ⟨rfl, c⟩
      have e : stp most R 0 to i at_ s = (R, 0, noB, false) := by unfold stp; rw [if_pos rfl, if_neg hc]
      exact ⟨by rw [e]; rfl, by rw [e]; exact hN.nw c, c.nw⟩
  by_cases h5 : K = 5
  · subst h5
    refine (ld5 base b most to i at_ s (snt R) w0 hN hb (by omega)).mono ?_
    rintro r w' ⟨x, rfl, hx, c⟩
    rw [snt_fst] at hx
    have e : stp most R 5 to i at_ s = (R, x, noB, true) := by simp [stp, firstR_eq hx]
    exact ⟨by rw [e]; rfl, by rw [e]; exact hN.nw c, c.nw⟩
  by_cases hi : 0 ≤ i ∧ i < R.length
  · obtain ⟨k, rfl⟩ : ∃ k : Nat, i = k := ⟨i.toNat, by omega⟩
    have hk : k < R.length := by omega
    have hk2 : k < (snt R).length := by omega
    have hp := hR R[k] (List.getElem_mem hk)
    have hg := getD_at R k hk
    have hq := snt_get R k hk hk2
    by_cases h1 : K = 1
    · subst h1
      refine (ld1_in base b most to at_ k s (snt R) w0 hN hb hk2 (by omega)).mono ?_
      rintro r w' ⟨rfl, hN', c⟩
      have e : stp most R 1 to k at_ s = (R.eraseIdx k, R[k].1, R[k].2, true) := by unfold stp; rw [if_neg (by decide), if_neg (by decide), if_pos hi, if_pos rfl, Int.toNat_natCast, hg]
      exact ⟨by rw [e, hq]; simp only [sb_bs], by rw [e, snt_erase]; exact hN', c⟩
    by_cases h2 : K = 2
    · subst h2
      by_cases hm2 : (R.length : Int) < most
      · refine (ld2_in base b most to at_ k s (snt R) w0 hN hb hk2 (by omega) hm (by rw [hq]; exact hp.1) (by rw [hq, bs_length]; exact hp.2)).mono ?_
        rintro r w' ⟨rfl, hN', c⟩
        have e : stp most R 2 to k at_ s = (R ++ [R[k]], 0, noB, true) := by unfold stp; rw [if_neg (by decide), if_neg (by decide), if_pos hi, if_neg (by decide), if_pos rfl, if_pos hm2, Int.toNat_natCast, hg]
        exact ⟨by rw [e]; rfl, by rw [e, snt_append]; rw [hq] at hN'; exact hN', c⟩
      · refine (ld2_full base b most to at_ k s (snt R) w0 hN hb hk2 (by omega)).mono ?_
        rintro r w' ⟨rfl, c⟩
        have e : stp most R 2 to k at_ s = (R, 0, noB, false) := by unfold stp; rw [if_neg (by decide), if_neg (by decide), if_pos hi, if_neg (by decide), if_pos rfl, if_neg hm2]
        exact ⟨by rw [e]; rfl, by rw [e]; exact hN.nw c, c.nw⟩
    by_cases h3 : K = 3
    · subst h3
      refine (ld3_in base b most to at_ k s (snt R) w0 hN hb hk2 (by omega)).mono ?_
      rintro r w' ⟨rfl, hN', c⟩
      have e : stp most R 3 to k at_ s = (R.eraseIdx k, 0, noB, true) := by unfold stp; rw [if_neg (by decide), if_neg (by decide), if_pos hi, if_neg (by decide), if_neg (by decide), if_pos rfl, Int.toNat_natCast]
      exact ⟨by rw [e]; rfl, by rw [e, snt_erase]; exact hN', c⟩
    · have h4 : K = 4 := by omega
      have ha := ha h4
      subst h4
      refine (ld4_in base b most to at_ k s (snt R) w0 hN hb hk2 (by rw [hq, bs_length]; exact hp.2) (by omega) (by omega)).mono ?_
      rintro r w' ⟨rfl, hN', c⟩
      have e : stp most R 4 to k at_ s = (R.set k (R[k].1, sb (turn (bs R[k].2) at_ (bs s))), 0, noB, true) := by unfold stp; rw [if_neg (by decide), if_neg (by decide), if_pos hi, if_neg (by decide), if_neg (by decide), if_neg (by decide), Int.toNat_natCast, hg]
      exact ⟨by rw [e]; rfl, by rw [e, snt_set]; rw [hq] at hN'; exact hN', c⟩
  · have e : stp most R K to i at_ s = (R, 0, noB, false) := by unfold stp; rw [if_neg h0, if_neg h5, if_neg hi]
    have hi2 : ¬ (0 ≤ i ∧ i < ((snt R).length : Int)) := by rw [hsn]; exact hi
    have fin : ∀ (r : Value) (w' : World), (r = .tuple #[.int .i64 0, .string ByteArray.empty, .bool false] ∧ Nw w0 w') → r = .tuple #[.int .i64 (stp most R K to i at_ s).2.1, .string (stp most R K to i at_ s).2.2.1, .bool (stp most R K to i at_ s).2.2.2] ∧ NetAt base w' b most (snt (stp most R K to i at_ s).1) ∧ NetC base w0 w' := by
      rintro r w' ⟨rfl, c⟩
      exact ⟨by rw [e]; rfl, by rw [e]; exact hN.nw c, c.nw⟩
    have : K = 1 ∨ K = 2 ∨ K = 3 ∨ K = 4 := by omega
    rcases this with rfl | rfl | rfl | rfl
    · exact (ld1_out base b most to i at_ s (snt R) w0 hN hb hi2).mono fin
    · exact (ld2_out base b most to i at_ s (snt R) w0 hN hb hi2).mono fin
    · exact (ld3_out base b most to i at_ s (snt R) w0 hN hb hi2).mono fin
    · exact (ld4_out base b most to i at_ s (snt R) w0 hN hb hi2 (by omega)).mono fin
end Go.Proofs.Ytplkjhoadnjkmaa

