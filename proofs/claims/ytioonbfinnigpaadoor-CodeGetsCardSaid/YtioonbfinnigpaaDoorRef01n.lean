/- A number, a field: the document's, walked. -/
import Derived.Test.YtioonbfinnigpaaDoorRef01b
namespace Go.Proofs.YtioonbfinnigpaaDoor
open Go Go.RowKit
set_option linter.unusedVariables false
set_option maxRecDepth 100000
set_option linter.unusedSimpArgs false
def valN : Nat → List UInt8 → Nat
  | 0, _ => 0
  | _ + 1, [] => 0
  | n + 1, c :: t => c.toNat % 128 + 128 * valN n t
theorem numL_skip : ∀ (n i : Nat) (l : List UInt8), (∀ j, j < n → 128 ≤ (l.getD j 0).toNat) → n ≤ l.length → i + n ≤ 9 → numL i l = ((numL (i + n) (l.drop n)).1, valN n l + 128 ^ n * (numL (i + n) (l.drop n)).2.1, (numL (i + n) (l.drop n)).2.2 + n)
  | 0, i, l, _, _, _ => by simp [valN]
  | n + 1, i, [], _, hl, _ => absurd hl (by simp)
  | n + 1, i, c :: t, h, hl, hi => by
    have h0 : 128 ≤ c.toNat := h 0 (by omega)
    have ih := numL_skip n (i + 1) t (fun j hj => h (j + 1) (by omega)) (by simpa using hl) (by omega)
    have e : i + 1 + n = i + (n + 1) := by omega
    rw [e] at ih
    rw [numL_step i c t (by omega) (by omega), ih, List.drop_succ_cons]
    simp only [valN]
    refine Prod.ext rfl (Prod.ext ?_ ?_)
    · show c.toNat % 128 + 128 * (valN n t + 128 ^ n * _) = _
      rw [Nat.mul_add, ← Nat.mul_assoc, Nat.pow_succ, Nat.mul_comm 128 (128 ^ n)]
      simp only [Nat.add_assoc]
    · show _ + n + 1 = _ + (n + 1)
      omega
theorem valN_succ : ∀ (n : Nat) (l : List UInt8), n < l.length → valN (n + 1) l = valN n l + 128 ^ n * ((l.getD n 0).toNat % 128)
  | _, [], h => absurd h (by simp)
  | 0, c :: t, _ => by simp [valN]
  | n + 1, c :: t, h => by
    have ih := valN_succ n t (by simpa using h)
    rw [valN, ih, valN, List.getD_cons_succ, Nat.mul_add, ← Nat.mul_assoc, Nat.pow_succ, Nat.mul_comm 128 (128 ^ n), Nat.add_assoc]
theorem valN_step (l : List UInt8) (k m : Nat) (h : k < l.length) : valN (m + 1) (l.drop k) = 128 * valN m (l.drop (k + 1)) + (l.getD k 0).toNat % 128 := by
  rw [List.drop_eq_getElem_cons h, valN, Nat.add_comm, List.getD_eq_getElem?_getD, List.getElem?_eq_getElem h, Option.getD_some]
theorem valN_drop : ∀ (k n : Nat) (l : List UInt8), valN n (l.drop k) ≤ valN (n + k) l
  | 0, n, l => by simp
  | k + 1, n, [] => by cases n <;> simp [valN]
  | k + 1, n, c :: t => by
    have := valN_drop k n t
    rw [List.drop_succ_cons, ← Nat.add_assoc, valN]
    omega
section
variable {n : Nat} {l : List UInt8}
theorem at_drop (h : n < l.length) : l.drop n = l[n] :: l.drop (n + 1) := List.drop_eq_getElem_cons h
theorem get_at (h : n < l.length) : l.getD n 0 = l[n] := by rw [List.getD_eq_getElem?_getD, List.getElem?_eq_getElem h, Option.getD_some]
theorem num_a (h : ∀ j, j < n → 128 ≤ (l.getD j 0).toNat) (h1 : n = l.length) (h2 : n < 10) : (numL 0 l).1 = 10 := by
  rw [numL_skip n 0 l h (by omega) (by omega), h1, List.drop_length]; rfl
theorem num_c (h : ∀ j, j < 9 → 128 ≤ (l.getD j 0).toNat) (h1 : 9 < l.length) (h2 : 1 < (l.getD 9 0).toNat) : (numL 0 l).1 = 11 := by
  rw [numL_skip 9 0 l h (by omega) (by omega), at_drop h1, numL, if_pos ⟨rfl, by rw [← get_at h1]; exact h2⟩]
theorem num_d (h : ∀ j, j < n → 128 ≤ (l.getD j 0).toNat) (h1 : n < l.length) (h9 : n ≤ 9) (h2 : (l.getD n 0).toNat = 0) (h3 : 0 < n) : (numL 0 l).1 = 11 := by
  have e : l[n].toNat = 0 := by rw [← get_at h1]; exact h2
  rw [numL_skip n 0 l h (by omega) (by omega), at_drop h1, numL, if_neg (by omega), if_pos (by omega), if_pos ⟨e, by omega⟩]
theorem num_e (h : ∀ j, j < n → 128 ≤ (l.getD j 0).toNat) (h1 : n < l.length) (h9 : n ≤ 9) (h2 : (l.getD n 0).toNat < 128) (h3 : ¬ (n = 9 ∧ 1 < (l.getD n 0).toNat)) (h4 : ¬ (0 < n ∧ (l.getD n 0).toNat = 0)) : numL 0 l = (0, valN (n + 1) l, n + 1) := by
  have e := get_at h1
  rw [numL_skip n 0 l h (by omega) (by omega), valN_succ n l h1, at_drop h1, e, numL, if_neg (by rw [← e]; omega), if_pos (by rw [← e]; exact h2), if_neg (by rw [← e]; omega)]
  refine Prod.ext rfl (Prod.ext ?_ ?_)
  · show valN n l + 128 ^ n * l[n].toNat = _
    rw [Nat.mod_eq_of_lt (by rw [← e]; exact h2)]
  · show 1 + n = n + 1
    omega
end
/-- What the document's number gives. -/
def numV (s : ByteArray) : Value := if (numL 0 (bs s)).1 = 0 then .tuple #[.int .u64 ((numL 0 (bs s)).2.1 : Nat), .string (s.extract (numL 0 (bs s)).2.2 s.size), .int .i64 0] else .tuple #[.int .u64 0, .string s, .int .i64 (numL 0 (bs s)).1]
theorem numV_err (s : ByteArray) {e : Int} (h : (numL 0 (bs s)).1 = e) (he : e ≠ 0) : Value.tuple #[.int .u64 0, .string s, .int .i64 e] = numV s := by rw [numV, h, if_neg he]
theorem num_bad {s : ByteArray} {n : Nat} (hn : n ≤ s.size) (hn10 : n ≤ 10) (hall : ∀ j, j < n → 128 ≤ ((bs s).getD j 0).toNat) (h31 : ¬ (n = s.size ∧ n < 10)) (h53 : n = 10 ∨ n = 9 ∧ 1 < (bat s 9).toNat ∨ 0 < n ∧ (bat s n).toNat = 0) : (numL 0 (bs s)).1 = 11 := by
  have hbl := bs_length s
  rcases h53 with h | h | h
  · exact num_c (fun j hj => hall j (by omega)) (by omega) (by have := hall 9 (by omega); omega)
  · exact num_c (fun j hj => hall j (by omega)) (by omega) h.2
  · by_cases h9 : n ≤ 9
    · exact num_d hall (by omega) h9 h.2 h.1
    · exact num_c (fun j hj => hall j (by omega)) (by omega) (by have := hall 9 (by omega); omega)
set_option maxHeartbeats 1000000 in
theorem rnum_walk (s : ByteArray) (w0 : World) : Does Tryd.prog 36 #[.string s] w0 (fun r w' => r = numV s ∧ Nw w0 w') := by
  have hbl := bs_length s
  refine fn_of (n := 73) (args := [.string s]) Tryd.func36 rfl rfl rfl ?_
  refine W_seq ?_
  refine W_region ?_
  refine L_r (r_ai rfl) ?_
  refine L_r (r_as rfl) ?_
  refine L_r (r_ai rfl) ?_
  refine L_nil ?_
  refine W_seq ?_
  refine W_region ?_
  refine L_r (r_ai rfl) ?_
  refine L_nil ?_
  refine W_cutF [0] (fun f W => ∃ (n : Nat), f 5 = .int .i64 n ∧ (n ≤ s.size ∧ n ≤ 10 ∧ (∀ j, j < n → 128 ≤ ((bs s).getD j 0).toNat) ∧ (n < s.size → n < 10 → (bat s n).toNat < 128) ∧ Nw w0 W)) ?_ ?_
  · refine W_block ?_
    refine W_loopF [0] (fun mz_ f W => ∃ (m : Nat), f 5 = .int .i64 m ∧ (m ≤ s.size ∧ m ≤ 10 ∧ (∀ j, j < m → 128 ≤ ((bs s).getD j 0).toNat) ∧ Nw w0 W) ∧ mz_ = s.size - m) ?_ ?_
    · refine ⟨_, 0, rfl, ?_, rfl⟩
      exact ⟨by omega, by omega, fun j hj => absurd hj (by omega), Ch.au⟩
    rintro m0 g0 w1 ⟨m, hf5, hR0, rfl⟩
    refine W_as 5 hf5 rfl ?_
    clear hf5
    obtain ⟨hm, hm10, hall, hnw⟩ := hR0
    have hz := hnw.size
    refine W_seq ?_
    refine W_seq ?_
    refine W_region ?_
    refine L_r (r_mi rfl) ?_
    refine L_r (r_ms rfl) ?_
    refine L_r (r_lens Tryd.underlying9 rfl) ?_
    refine L_r (r_lss rfl rfl) ?_
    refine L_r (r_mb rfl) ?_
    refine L_case (d := 12) rfl (fun h12 => ?_) (fun h12 => ?_)
    · refine L_g (r_mi rfl) ?_
      refine L_g (r_lss rfl rfl) ?_
      refine L_r (r_pt rfl rfl) ?_
      refine L_r (r_mb rfl) ?_
      refine L_case (d := 16) rfl (fun h16 => ?_) (fun h16 => ?_)
      · refine L_g (r_ms rfl) ?_
        refine L_g (r_mi rfl) ?_
        refine L_g (r_indexs Tryd.underlying9 rfl rfl (by omega) (by omega) (by conv => lhs; (try simp only [Nat.mul_one, Nat.zero_add, Int.toNat_natCast, Int.toNat_zero, Int.reduceToNat, Nat.reduceMul, Nat.reduceAdd]))) ?_
        refine L_g (r_geq rfl rfl) ?_
        refine L_r (r_pt rfl rfl) ?_
        refine L_nil ?_
        refine W_if rfl (fun h21 => ?_) (fun h21 => ?_)
        · refine W_skip ?_
          refine W_block ?_
          refine W_region ?_
          refine L_r (r_mi rfl) ?_
          refine L_r (r_add rfl rfl (by first | exact wr_i64 (by omega) | rfl)) ?_
          refine L_r (r_ai rfl) ?_
          refine L_nil ?_
          refine ⟨⟨fx2, trivial⟩, _, ?_, m + 1, rfl, ?_, rfl⟩
          · omega
          exact ⟨by omega, by omega, fun j hj => by rcases Nat.lt_or_ge j m with h | h; exact hall j h; (have e : j = m := by omega); subst e; show 128 ≤ (bat s _).toNat; omega, Ch.au⟩
        · refine W_exit ?_
          repeat (first | refine blk_hit ?_ | refine blk_miss rfl ?_)
          refine ⟨⟨fx2, trivial⟩, m, rfl, ?_⟩
          exact ⟨by omega, by omega, hall, by omega, hnw⟩
      · refine L_ps ?_
        refine L_ps ?_
        refine L_ps ?_
        refine L_ps ?_
        refine L_r (r_pf rfl rfl) ?_
        refine L_nil ?_
        refine W_false rfl ?_
        refine W_exit ?_
        repeat (first | refine blk_hit ?_ | refine blk_miss rfl ?_)
        refine ⟨⟨fx2, trivial⟩, m, rfl, ?_⟩
        exact ⟨by omega, by omega, hall, by omega, hnw⟩
    · refine L_ps ?_
      refine L_ps ?_
      refine L_r (r_pf rfl rfl) ?_
      refine L_r (r_mb rfl) ?_
      refine L_ps ?_
      refine L_ps ?_
      refine L_ps ?_
      refine L_ps ?_
      refine L_r (r_pf rfl rfl) ?_
      refine L_nil ?_
      refine W_false rfl ?_
      refine W_exit ?_
      repeat (first | refine blk_hit ?_ | refine blk_miss rfl ?_)
      refine ⟨⟨fx2, trivial⟩, m, rfl, ?_⟩
      exact ⟨by omega, by omega, hall, by omega, hnw⟩
  rintro gcb0 w2 ⟨n, hf5, hCb0⟩
  refine W_as 5 hf5 rfl ?_
  clear hf5
  obtain ⟨hn, hn10, hall, hlow, hnw⟩ := hCb0
  have hz := hnw.size
  refine W_seq ?_
  refine W_cutF [0, 5] (fun f W => f 31 = .bool (decide (n = s.size ∧ n < 10)) ∧ (W = w2)) ?_ ?_
  · refine W_region ?_
    refine L_r (r_mi rfl) ?_
    refine L_r (r_ms rfl) ?_
    refine L_r (r_lens Tryd.underlying9 rfl) ?_
    refine L_r (r_eql rfl rfl) ?_
    refine L_r (r_mb rfl) ?_
    refine L_case (d := 28) rfl (fun h28 => ?_) (fun h28 => ?_)
    · refine L_g (r_mi rfl) ?_
      refine L_g (r_lss rfl rfl) ?_
      refine L_r (r_pt rfl rfl) ?_
      refine L_nil ?_
      refine ⟨⟨fx2, fx2, trivial⟩, (dec_i (by omega)), ?_⟩
      rfl
    · refine L_ps ?_
      refine L_ps ?_
      refine L_r (r_pf rfl rfl) ?_
      refine L_nil ?_
      refine ⟨⟨fx2, fx2, trivial⟩, (dec_f (by omega)), ?_⟩
      rfl
  rintro gcr4 w3 ⟨hf31, hCr4⟩
  refine W_as 31 hf31 rfl ?_
  clear hf31
  subst hCr4
  refine W_if rfl (fun h31 => ?_) (fun h31 => ?_)
  · refine W_seq ?_
    refine W_region ?_
    refine L_r (r_ms rfl) ?_
    refine L_r (r_ai rfl) ?_
    refine L_r (r_as rfl) ?_
    refine L_r (r_ai rfl) ?_
    refine L_nil ?_
    refine W_ret ?_
    refine ret3 (u := .int _ _) (v := .string _) (x := .int _ _) rfl rfl rfl rfl ?_
    first
    | exact ⟨numV_err s (num_a hall (by omega) (by omega)) (by decide), Ch.au⟩
    | exact ⟨numV_err s (num_bad hn hn10 hall h31 h53) (by decide), Ch.au⟩
    | (refine ⟨?_, Ch.au⟩
       have hk0 : k = 0 := by omega
       subst hk0
       rw [numV, hE]
       rw [Nat.sub_zero, List.drop_zero] at hv
       rw [hv, show ((n : Int) + 1).toNat = n + 1 by omega]
       exact (if_pos rfl).symm)
  · refine W_skip ?_
    refine W_seq ?_
    refine W_cutF [0, 5] (fun f W => f 53 = .bool (decide (n = 10 ∨ (n = 9 ∧ 1 < (bat s 9).toNat) ∨ (0 < n ∧ (bat s n).toNat = 0))) ∧ (W = w3)) ?_ ?_
    · refine W_region ?_
      refine L_r (r_mi rfl) ?_
      refine L_r (r_eql rfl rfl) ?_
      refine L_r (r_mb rfl) ?_
      refine L_case (d := 35) rfl (fun h35 => ?_) (fun h35 => ?_)
      · refine L_ps ?_
        refine L_ps ?_
        refine L_ps ?_
        refine L_pu ?_
        refine L_pu ?_
        refine L_pu ?_
        refine L_ps ?_
        refine L_r (r_pt rfl rfl) ?_
        refine L_r (r_mb rfl) ?_
        refine L_ps ?_
        refine L_ps ?_
        refine L_ps ?_
        refine L_pu ?_
        refine L_pu ?_
        refine L_pu ?_
        refine L_pu ?_
        refine L_ps ?_
        refine L_r (r_pt rfl rfl) ?_
        refine L_nil ?_
        refine ⟨⟨fx2, fx2, trivial⟩, (dec_t (by omega)), ?_⟩
        rfl
      · refine L_g (r_mi rfl) ?_
        refine L_g (r_eql rfl rfl) ?_
        refine L_g (r_mb rfl) ?_
        refine L_case (d := 38) rfl (fun h38 => ?_) (fun h38 => ?_)
        · refine L_g (r_ms rfl) ?_
          refine L_g (r_indexs Tryd.underlying9 rfl rfl (by omega) (by omega) (by conv => lhs; (try simp only [Nat.mul_one, Nat.zero_add, Int.toNat_natCast, Int.toNat_zero, Int.reduceToNat, Nat.reduceMul, Nat.reduceAdd]))) ?_
          refine L_g (r_gtr rfl rfl) ?_
          refine L_g (r_pt rfl rfl) ?_
          refine L_r (r_pf rfl rfl) ?_
          refine L_r (r_mb rfl) ?_
          refine L_case (d := 44) rfl (fun h44 => ?_) (fun h44 => ?_)
          · refine L_ps ?_
            refine L_ps ?_
            refine L_ps ?_
            refine L_pu ?_
            refine L_pu ?_
            refine L_pu ?_
            refine L_pu ?_
            refine L_ps ?_
            refine L_r (r_pt rfl rfl) ?_
            refine L_nil ?_
            refine ⟨⟨fx2, fx2, trivial⟩, (dec_t (by omega)), ?_⟩
            rfl
          · refine L_g (r_mi rfl) ?_
            refine L_g (r_gtr rfl rfl) ?_
            refine L_g (r_mb rfl) ?_
            refine L_case (d := 47) rfl (fun h47 => ?_) (fun h47 => ?_)
            · refine L_g (r_ms rfl) ?_
              refine L_g (r_mi rfl) ?_
              refine L_g (r_indexs Tryd.underlying9 rfl rfl (by omega) (by omega) (by conv => lhs; (try simp only [Nat.mul_one, Nat.zero_add, Int.toNat_natCast, Int.toNat_zero, Int.reduceToNat, Nat.reduceMul, Nat.reduceAdd]))) ?_
              refine L_g (r_eql rfl rfl) ?_
              refine L_g (r_pt rfl rfl) ?_
              refine L_r (r_pf rfl rfl) ?_
              refine L_nil ?_
              refine ⟨⟨fx2, fx2, trivial⟩, (dec_i (by omega)), ?_⟩
              rfl
            · refine L_ps ?_
              refine L_ps ?_
              refine L_ps ?_
              refine L_ps ?_
              refine L_g (r_pf rfl rfl) ?_
              refine L_r (r_pf rfl rfl) ?_
              refine L_nil ?_
              refine ⟨⟨fx2, fx2, trivial⟩, (dec_f (by omega)), ?_⟩
              rfl
        · refine L_ps ?_
          refine L_ps ?_
          refine L_ps ?_
          refine L_g (r_pf rfl rfl) ?_
          refine L_r (r_pf rfl rfl) ?_
          refine L_r (r_mb rfl) ?_
          refine L_g (r_mi rfl) ?_
          refine L_g (r_gtr rfl rfl) ?_
          refine L_g (r_mb rfl) ?_
          refine L_case (d := 47) rfl (fun h47 => ?_) (fun h47 => ?_)
          · refine L_g (r_ms rfl) ?_
            refine L_g (r_mi rfl) ?_
            refine L_g (r_indexs Tryd.underlying9 rfl rfl (by omega) (by omega) (by conv => lhs; (try simp only [Nat.mul_one, Nat.zero_add, Int.toNat_natCast, Int.toNat_zero, Int.reduceToNat, Nat.reduceMul, Nat.reduceAdd]))) ?_
            refine L_g (r_eql rfl rfl) ?_
            refine L_g (r_pt rfl rfl) ?_
            refine L_r (r_pf rfl rfl) ?_
            refine L_nil ?_
            refine ⟨⟨fx2, fx2, trivial⟩, (dec_i (by omega)), ?_⟩
            rfl
          · refine L_ps ?_
            refine L_ps ?_
            refine L_ps ?_
            refine L_ps ?_
            refine L_g (r_pf rfl rfl) ?_
            refine L_r (r_pf rfl rfl) ?_
            refine L_nil ?_
            refine ⟨⟨fx2, fx2, trivial⟩, (dec_f (by omega)), ?_⟩
            rfl
    rintro gcr6 w4 ⟨hf53, hCr6⟩
    refine W_as 53 hf53 rfl ?_
    clear hf53
    subst hCr6
    refine W_if rfl (fun h53 => ?_) (fun h53 => ?_)
    · refine W_seq ?_
      refine W_region ?_
      refine L_r (r_ms rfl) ?_
      refine L_r (r_ai rfl) ?_
      refine L_r (r_as rfl) ?_
      refine L_r (r_ai rfl) ?_
      refine L_nil ?_
      refine W_ret ?_
      refine ret3 (u := .int _ _) (v := .string _) (x := .int _ _) rfl rfl rfl rfl ?_
      first
      | exact ⟨numV_err s (num_a hall (by omega) (by omega)) (by decide), Ch.au⟩
      | exact ⟨numV_err s (num_bad hn hn10 hall h31 h53) (by decide), Ch.au⟩
      | (refine ⟨?_, Ch.au⟩
         have hk0 : k = 0 := by omega
         subst hk0
         rw [numV, hE]
         rw [Nat.sub_zero, List.drop_zero] at hv
         rw [hv, show ((n : Int) + 1).toNat = n + 1 by omega]
         exact (if_pos rfl).symm)
    · have k1 : n < s.size := by omega
      have k3 := hlow k1 (by omega)
      have k4 : ¬ (n = 9 ∧ 1 < (bat s n).toNat) := fun h => h53 (.inr (.inl ⟨h.1, by rw [← h.1]; exact h.2⟩))
      have hE := num_e hall (by omega) (by omega) k3 k4 (fun h => h53 (.inr (.inr h)))
      have hEv := numL_lt (bs s) 0 (by omega)
      rw [hE] at hEv
      have hVb : valN (n + 1) (bs s) < 18446744073709551616 := hEv
      refine W_skip ?_
      refine W_seq ?_
      refine W_region ?_
      refine L_r (r_ai rfl) ?_
      refine L_nil ?_
      refine W_seq ?_
      refine W_seq ?_
      refine W_region ?_
      refine L_r (r_mi rfl) ?_
      refine L_r (r_ai rfl) ?_
      refine L_nil ?_
      refine W_block ?_
      refine W_loopF [0, 5] (fun mz_ f W => ∃ (k : Nat) (v : Nat), f 6 = .int .u64 v ∧ f 7 = .int .i64 ((k : Int) - 1) ∧ (k ≤ n + 1 ∧ v = valN (n + 1 - k) ((bs s).drop k) ∧ Nw w0 W) ∧ mz_ = k + 1) ?_ ?_
      · refine ⟨_, n + 1, 0, rfl, (by exact congrArg (Value.int .i64) (by omega)), ?_, rfl⟩
        exact ⟨by omega, by rw [Nat.sub_self]; rfl, Ch.au⟩
      rintro m1 g1 w5 ⟨k, v, hf6, hf7, hR1, rfl⟩
      refine W_as 6 hf6 rfl ?_
      refine W_as 7 hf7 rfl ?_
      clear hf6 hf7
      obtain ⟨hk, hv, hnw⟩ := hR1
      have hz := hnw.size
      refine W_seq ?_
      refine W_seq ?_
      refine W_region ?_
      refine L_r (r_mi rfl) ?_
      refine L_r (r_geq rfl rfl) ?_
      refine L_nil ?_
      refine W_if rfl (fun h57 => ?_) (fun h57 => ?_)
      · have ek : ((k : Int) - 1).toNat = k - 1 := by omega
        have hk1 : 1 ≤ k := by omega
        have hst : valN (n + 1 - k + 1) ((bs s).drop (k - 1)) = 128 * v + (bat s (k - 1)).toNat % 128 := by
          have h := valN_step (bs s) (k - 1) (n + 1 - k) (by omega)
          rw [show k - 1 + 1 = k by omega, ← hv] at h
          exact h
        have hbd := valN_drop (k - 1) (n + 1 - k + 1) (bs s)
        rw [hst, show n + 1 - k + 1 + (k - 1) = n + 1 by omega] at hbd
        refine W_skip ?_
        refine W_seq ?_
        refine W_block ?_
        refine W_region ?_
        refine L_r (r_mi rfl) ?_
        refine L_r (r_mul rfl rfl (by first | exact wr_u64 (by omega) | rfl)) ?_
        refine L_r (r_ms rfl) ?_
        refine L_r (r_mi rfl) ?_
        refine L_r (r_indexs Tryd.underlying9 rfl rfl (by omega) (by omega) (by conv => lhs; (try simp only [Nat.mul_one, Nat.zero_add, Int.toNat_natCast, Int.toNat_zero, Int.reduceToNat, Nat.reduceMul, Nat.reduceAdd]))) ?_
        refine L_r (r_remn rfl rfl (by omega) (by omega)) ?_
        refine L_r (r_conv Tryd.underlying5 Tryd.underlying61 rfl (by first | exact wr_u64 (by omega) | rfl)) ?_
        refine L_r (r_add rfl rfl (by first | exact wr_u64 (by omega) | rfl)) ?_
        refine L_r (r_ai rfl) ?_
        refine L_nil ?_
        refine W_region ?_
        refine L_r (r_mi rfl) ?_
        refine L_r (r_sub rfl rfl (by first | exact wr_i64 (by omega) | rfl)) ?_
        refine L_r (r_ai rfl) ?_
        refine L_nil ?_
        refine ⟨⟨fx2, fx2, trivial⟩, _, ?_, k - 1, 128 * v + (bat s ((k : Int) - 1).toNat).toNat % 128, (by exact congrArg (Value.int .u64) (by omega)), (by exact congrArg (Value.int .i64) (by omega)), ?_, rfl⟩
        · omega
        exact ⟨by omega, by rw [ek, show n + 1 - (k - 1) = n + 1 - k + 1 by omega, hst], Ch.au⟩
      · refine W_exit ?_
        repeat (first | refine blk_hit ?_ | refine blk_miss rfl ?_)
        refine W_seq ?_
        refine W_still (by kernel_rfl) (by kernel_rfl) (fun w6 c6 hs6 => ?_)
        refine H_r (r_mi rfl) ?_
        refine H_r (r_ms rfl) ?_
        refine H_r (r_mi rfl) ?_
        refine H_r (r_add rfl rfl (by first | exact wr_i64 (by omega) | rfl)) ?_
        refine H_r (r_slices_l Tryd.underlying9 rfl rfl (by omega) (by omega)) ?_
        refine H_r (r_ai rfl) ?_
        refine H_r (r_as rfl) ?_
        refine H_r (r_ai rfl) ?_
        refine H_nil ?_
        refine W_ret ?_
        refine ret3 (u := .int _ _) (v := .string _) (x := .int _ _) rfl rfl rfl rfl ?_
        first
        | exact ⟨numV_err s (num_a hall (by omega) (by omega)) (by decide), Ch.au⟩
        | exact ⟨numV_err s (num_bad hn hn10 hall h31 h53) (by decide), Ch.au⟩
        | (refine ⟨?_, Ch.au⟩
           have hk0 : k = 0 := by omega
           subst hk0
           rw [numV, hE]
           rw [Nat.sub_zero, List.drop_zero] at hv
           rw [hv, show ((n : Int) + 1).toNat = n + 1 by omega]
           exact (if_pos rfl).symm)
end Go.Proofs.YtioonbfinnigpaaDoor

