/- Which instructions may be, by the document; walked. -/
import Derived.Test.YtioonbfinnigpaaGreatDoorRef04
import Derived.Test.YtioonbfinnigpaaGreatDoorRef01b
import Derived.Test.YtioonbfinnigpaaGreatDoorCode4
namespace Go.Proofs.YtioonbfinnigpaaGreatDoor
open Go Go.RowKit
set_option linter.unusedVariables false
set_option linter.unusedSimpArgs false
set_option maxRecDepth 100000
theorem bs_at {s : ByteArray} {j : Nat} (h : j < s.size) : (bs s)[j]? = some (bat s j) := by
  have hl : j < (bs s).length := by rw [bs_length]; exact h
  unfold bat
  rw [List.getD_eq_getElem?_getD, List.getElem?_eq_getElem hl]; rfl
theorem nonl_iff (s : ByteArray) : noNl s ↔ ∀ j, j < s.size → (bat s j).toNat ≠ 10 := by
  unfold noNl Lib.contains
  rw [Lib.index_one]
  constructor
  · intro h j hj hc
    have hI : ¬ 0 ≤ Lib.indexByte (bs s) 10 := of_decide_eq_false h
    have hge := Lib.indexByte_ge (bs s) 10
    have hm : Lib.indexByte (bs s) 10 = -1 := by omega
    have h2 := Lib.indexByte_none hm j
    rw [bs_at hj] at h2
    exact h2 (congrArg some (UInt8.toNat_inj.1 hc))
  · intro h
    refine decide_eq_false fun hle => ?_
    obtain ⟨o, ho⟩ : ∃ o : Nat, Lib.indexByte (bs s) 10 = o := ⟨(Lib.indexByte (bs s) 10).toNat, by omega⟩
    obtain ⟨h1, h2⟩ := Lib.indexByte_some ho
    have ho1 : o < s.size := by rw [← bs_length]; exact (List.getElem?_eq_some_iff.1 h1).1
    rw [bs_at ho1] at h1
    injection h1 with h1
    exact h o ho1 (by rw [h1]; rfl)
theorem tk_oneB : ((List.range 42).all fun k => !((opT.getD k default).2.1 && (opT.getD k default).2.2)) = true := by decide +kernel
def okR (r : Int) (x : Ins) : Prop := (r = 1 ∨ x.n = 0) ∧ (r = 2 ∨ x.s = { data := #[] })
instance (r : Int) (x : Ins) : Decidable (okR r x) := inferInstanceAs (Decidable (_ ∧ _))
def okQ (r : Int) (x : Ins) : Prop := okR r x ∧ (r = 2 → textP x.op x.s)
instance (r : Int) (x : Ins) : Decidable (okQ r x) := inferInstanceAs (Decidable (_ ∧ _))
theorem check_r (x : Ins) : checkI x = if rtI (takesF x.op) < 0 then 40 else if okQ (rtI (takesF x.op)) x then 0 else 41 := by
  have h1 : ¬ ((takesF x.op).1 = true ∧ (takesF x.op).2.1 = true) := by
    unfold takesF
    cases hk : opIx x.op with
    | none => simp
    | some k =>
      have := List.all_eq_true.1 tk_oneB k (List.mem_range.2 (opIx_lt hk))
      rintro ⟨k1, k2⟩
      simp only at k1 k2
      rw [k1, k2] at this
      exact absurd this (by decide)
  unfold checkI
  generalize takesF x.op = t at h1 ⊢
  obtain ⟨ta, tb, tc⟩ := t
  unfold checkT okQ okR rtI
  cases tc <;> cases ta <;> cases tb <;> simp_all <;> split <;> simp_all <;> (intro a b; rename_i h; rcases h with h | h <;> contradiction)
set_option maxHeartbeats 1000000 in
theorem rcheck04_walk (x : Ins) (w0 : World) (hs : x.s.size ≤ 1000000) : Does Tryz.prog 20 #[x.v] w0 (fun r w' => r = .int .i64 (checkI x) ∧ Nw w0 w') := by
  have hck := check_r x
  have htk := rtakes_walk x.op
  generalize rtI (takesF x.op) = r at hck htk
  refine fn_of (n := 113) (args := [x.v]) Tryz.func20 rfl rfl rfl ?_
  refine W_seq ?_
  refine W_region ?_
  refine L_new (.plain rfl) rfl rfl (r_boxa rfl) (fun w1 b1 hb1 eb1 hs1 c1 => ?_)
  refine L_r (r_ai rfl) ?_
  refine L_nil ?_
  refine W_seq ?_
  refine W_region ?_
  refine L_r (r_fieldb Tryz.underlying47 rfl (show _ = some 1 from rfl) rfl rfl (show _ = 0 from rfl)) ?_
  refine L_r (r_lb rfl rfl) ?_
  refine L_call (.plain rfl) rfl rfl (r_call Tryz.func24 rfl rfl rfl (by rfl)) (htk _) ?_
  rintro v11 w2 ⟨rfl, c2⟩
  have hz2 := c2.size
  refine L_r (r_ai rfl) ?_
  refine L_nil ?_
  refine W_seq ?_
  refine W_seq ?_
  refine W_region ?_
  refine L_r (r_mi rfl) ?_
  refine L_r (r_lss rfl rfl) ?_
  refine L_nil ?_
  refine W_if rfl (fun h13 => ?_) (fun h13 => ?_)
  · refine W_seq ?_
    refine W_region ?_
    refine L_r (r_ai rfl) ?_
    refine L_nil ?_
    refine W_ret ?_
    refine ret1 (v := .int _ _) rfl rfl ?_
    refine ⟨?_, Ch.au⟩
    rw [hck]
    first
    | (rw [if_pos (by assumption)]; done)
    | (rw [if_neg (by assumption), if_pos (by assumption)]; done)
    | (rw [if_neg (by assumption), if_neg (by assumption)]; done)
    | (rw [if_neg (by assumption), if_pos (Classical.not_not.1 (by assumption))]; done)
  · refine W_skip ?_
    refine W_cutF [1, 3] (fun f W => f 4 = .bool (decide (okR r x)) ∧ (W = w2)) ?_ ?_
    · refine W_region ?_
      refine L_r (r_mi rfl) ?_
      refine L_r (r_eql rfl rfl) ?_
      refine L_r (r_mb rfl) ?_
      refine L_case (d := 16) rfl (fun h16 => ?_) (fun h16 => ?_)
      · refine L_ps ?_
        refine L_ps ?_
        refine L_ps ?_
        refine L_r (r_pt rfl rfl) ?_
        refine L_r (r_mb rfl) ?_
        refine L_g (r_mi rfl) ?_
        refine L_g (r_eql rfl rfl) ?_
        refine L_g (r_mb rfl) ?_
        refine L_case (d := 24) rfl (fun h24 => ?_) (fun h24 => ?_)
        · refine L_ps ?_
          refine L_ps ?_
          refine L_ps ?_
          refine L_g (r_pt rfl rfl) ?_
          refine L_r (r_pt rfl rfl) ?_
          refine L_r (r_ab rfl) ?_
          refine L_nil ?_
          refine ⟨⟨fx2, fx2, trivial⟩, (dec_t (by unfold okR; simp_all)), ?_⟩
          rfl
        · refine L_g (r_fieldb Tryz.underlying47 rfl (show _ = some 1 from rfl) rfl rfl (show _ = 2 from rfl)) ?_
          refine L_g (r_lb rfl rfl) ?_
          refine L_g (r_eqls rfl rfl) ?_
          refine L_g (r_pf rfl rfl) ?_
          refine L_r (r_pt rfl rfl) ?_
          refine L_r (r_ab rfl) ?_
          refine L_nil ?_
          refine ⟨⟨fx2, fx2, trivial⟩, (dec_i (by unfold okR; simp_all)), ?_⟩
          rfl
      · refine L_g (r_fieldb Tryz.underlying47 rfl (show _ = some 1 from rfl) rfl rfl (show _ = 1 from rfl)) ?_
        refine L_g (r_lb rfl rfl) ?_
        refine L_g (r_eql rfl rfl) ?_
        refine L_r (r_pf rfl rfl) ?_
        refine L_r (r_mb rfl) ?_
        refine L_case (d := 21) rfl (fun h21 => ?_) (fun h21 => ?_)
        · refine L_g (r_mi rfl) ?_
          refine L_g (r_eql rfl rfl) ?_
          refine L_g (r_mb rfl) ?_
          refine L_case (d := 24) rfl (fun h24 => ?_) (fun h24 => ?_)
          · refine L_ps ?_
            refine L_ps ?_
            refine L_ps ?_
            refine L_g (r_pt rfl rfl) ?_
            refine L_r (r_pt rfl rfl) ?_
            refine L_r (r_ab rfl) ?_
            refine L_nil ?_
            refine ⟨⟨fx2, fx2, trivial⟩, (dec_t (by unfold okR; simp_all)), ?_⟩
            rfl
          · refine L_g (r_fieldb Tryz.underlying47 rfl (show _ = some 1 from rfl) rfl rfl (show _ = 2 from rfl)) ?_
            refine L_g (r_lb rfl rfl) ?_
            refine L_g (r_eqls rfl rfl) ?_
            refine L_g (r_pf rfl rfl) ?_
            refine L_r (r_pt rfl rfl) ?_
            refine L_r (r_ab rfl) ?_
            refine L_nil ?_
            refine ⟨⟨fx2, fx2, trivial⟩, (dec_i (by unfold okR; simp_all)), ?_⟩
            rfl
        · refine L_ps ?_
          refine L_ps ?_
          refine L_ps ?_
          refine L_pu ?_
          refine L_pu ?_
          refine L_pu ?_
          refine L_ps ?_
          refine L_r (r_pf rfl rfl) ?_
          refine L_r (r_ab rfl) ?_
          refine L_nil ?_
          refine ⟨⟨fx2, fx2, trivial⟩, (dec_f (by unfold okR; simp_all)), ?_⟩
          rfl
    rintro gcr4 w3 ⟨hf4, hCr4⟩
    refine W_as 4 hf4 rfl ?_
    clear hf4
    subst hCr4
    refine W_seq ?_
    refine W_seq ?_
    refine W_region ?_
    refine L_r (r_mi rfl) ?_
    refine L_r (r_eql rfl rfl) ?_
    refine L_nil ?_
    refine W_endF [] (fun f W => f 4 = .bool (decide (okQ r x)) ∧ (Bk W b1 #[.string x.op, .int .i64 x.n, .string x.s] 47 ∧ Nw w0 W)) ?_ ?_
    · refine W_if rfl (fun h31 => ?_) (fun h31 => ?_)
      · refine W_seq ?_
        refine W_region ?_
        refine L_r (r_fieldb Tryz.underlying47 rfl (show _ = some 1 from rfl) rfl rfl (show _ = 0 from rfl)) ?_
        refine L_r (r_lb rfl rfl) ?_
        refine L_nil ?_
        refine W_block ?_
        refine W_seq ?_
        refine W_region ?_
        refine L_r (r_eqls rfl rfl) ?_
        refine L_r (r_ab rfl) ?_
        refine L_nil ?_
        refine W_if rfl (fun h45 => ?_) (fun h45 => ?_)
        · refine W_seq ?_
          refine W_region ?_
          refine L_r (r_mb rfl) ?_
          refine L_r (r_mb rfl) ?_
          refine L_case (d := 48) rfl (fun h48 => ?_) (fun h48 => ?_)
          · refine L_g (r_fieldb Tryz.underlying47 rfl (show _ = some 1 from rfl) rfl rfl (show _ = 2 from rfl)) ?_
            refine L_g (r_lb rfl rfl) ?_
            refine L_g (r_lens Tryz.underlying9 rfl) ?_
            refine L_g (r_leq rfl rfl) ?_
            refine L_r (r_pt rfl rfl) ?_
            refine L_r (r_mb rfl) ?_
            refine L_case (d := 54) rfl (fun h54 => ?_) (fun h54 => ?_)
            · refine L_g (r_fieldb Tryz.underlying47 rfl (show _ = some 1 from rfl) rfl rfl (show _ = 2 from rfl)) ?_
              refine L_g (r_lb rfl rfl) ?_
              refine L_call (.yes 7 true rfl rfl) rfl rfl (r_call Tryz.func48 rfl rfl rfl (by rfl)) (whole_walk x.s _) ?_
              rintro v57 w4 ⟨rfl, c4⟩
              have hz4 := c4.size
              refine L_r (r_pt rfl rfl) ?_
              refine L_r (r_ab rfl) ?_
              refine L_nil ?_
              refine W_seq ?_
              refine W_region ?_
              refine L_r (r_ai rfl) ?_
              refine L_nil ?_
              refine W_block ?_
              refine W_loopF [1] (fun mz_ f W => ∃ (i : Nat) (b : Bool), f 4 = .bool b ∧ f 5 = .int .i64 i ∧ (i ≤ x.s.size ∧ (b = true ↔ (okR r x ∧ x.s.size ≤ 64 ∧ Lib.validD (bs x.s) = true ∧ ∀ j, j < i → (bat x.s j).toNat ≠ 10)) ∧ Bk W b1 #[.string x.op, .int .i64 x.n, .string x.s] 47 ∧ Nw w0 W) ∧ mz_ = x.s.size - i) ?_ ?_
              · refine ⟨_, 0, _, rfl, rfl, ?_, rfl⟩
                refine ⟨by omega, ?_, Bk.au, Ch.au⟩
                clear hck htk
                have e : ∀ j, j < 0 → (bat x.s j).toNat ≠ 10 := fun j hj => absurd hj (by omega)
                first
                | (have e2 : x.s.size ≤ 64 := by omega
                   simp_all; done)
                | (have e2 : ¬ x.s.size ≤ 64 := by omega
                   exact ⟨fun h => (by cases h), fun k => absurd k.2.1 e2⟩)
                | (simp_all; done)
              rintro m0 g0 w5 ⟨i, b, hf4, hf5, hR0, rfl⟩
              refine W_as 4 hf4 rfl ?_
              refine W_as 5 hf5 rfl ?_
              clear hf4 hf5
              obtain ⟨hi, hbb, hbk, hnw⟩ := hR0
              have hz := hnw.size
              refine W_seq ?_
              refine W_seq ?_
              refine W_region ?_
              refine L_r (r_mi rfl) ?_
              refine L_r (r_fieldb Tryz.underlying47 rfl (show _ = some 1 from rfl) rfl rfl (show _ = 2 from rfl)) ?_
              refine L_r (r_lb rfl rfl) ?_
              refine L_r (r_lens Tryz.underlying9 rfl) ?_
              refine L_r (r_lss rfl rfl) ?_
              refine L_nil ?_
              refine W_if rfl (fun h63 => ?_) (fun h63 => ?_)
              · refine W_skip ?_
                refine W_seq ?_
                refine W_block ?_
                refine W_region ?_
                refine L_r (r_mb rfl) ?_
                refine L_r (r_mb rfl) ?_
                refine L_caseb (d := 67) rfl (fun h67 => ?_) (fun h67 => ?_)
                · refine L_g (r_fieldb Tryz.underlying47 rfl (show _ = some 1 from rfl) rfl rfl (show _ = 2 from rfl)) ?_
                  refine L_g (r_lb rfl rfl) ?_
                  refine L_g (r_mi rfl) ?_
                  refine L_g (r_indexs Tryz.underlying9 rfl rfl (by omega) (by omega) (by conv => lhs; (try simp only [Nat.mul_one, Nat.zero_add, Int.toNat_natCast, Int.toNat_zero, Int.reduceToNat, Nat.reduceMul, Nat.reduceAdd]))) ?_
                  refine L_g (r_neq rfl rfl) ?_
                  refine L_r (r_pt rfl rfl) ?_
                  refine L_r (r_ab rfl) ?_
                  refine L_nil ?_
                  refine W_region ?_
                  refine L_r (r_mi rfl) ?_
                  refine L_r (r_add rfl rfl (by first | exact wr_i64 (by omega) | rfl)) ?_
                  refine L_r (r_ai rfl) ?_
                  refine L_nil ?_
                  refine ⟨⟨fx2, trivial⟩, _, ?_, i + 1, _, rfl, rfl, ?_, rfl⟩
                  · omega
                  refine ⟨by omega, ?_, Bk.au, Ch.au⟩
                  first
                  | (rw [decide_eq_true_iff]
                     have hb := hbb.1 (by assumption)
                     constructor
                     · intro k
                       refine ⟨hb.1, hb.2.1, hb.2.2.1, fun j hj => ?_⟩
                       rcases Nat.lt_or_ge j i with h | h
                       · exact hb.2.2.2 j h
                       · have e : j = i := by omega
                         subst e; omega
                     · intro k
                       have := k.2.2.2 i (by omega)
                       omega)
                  | (constructor
                     · intro h; cases h
                     · intro k
                       have h := hbb.2 ⟨k.1, k.2.1, k.2.2.1, fun j hj => k.2.2.2 j (by omega)⟩
                       have h2 : b = false := by assumption
                       rw [h2] at h; cases h)
                · refine L_ps ?_
                  refine L_ps ?_
                  refine L_ps ?_
                  refine L_ps ?_
                  refine L_ps ?_
                  refine L_r (r_pf rfl rfl) ?_
                  refine L_r (r_ab rfl) ?_
                  refine L_nil ?_
                  refine W_region ?_
                  refine L_r (r_mi rfl) ?_
                  refine L_r (r_add rfl rfl (by first | exact wr_i64 (by omega) | rfl)) ?_
                  refine L_r (r_ai rfl) ?_
                  refine L_nil ?_
                  refine ⟨⟨fx2, trivial⟩, _, ?_, i + 1, _, rfl, rfl, ?_, rfl⟩
                  · omega
                  refine ⟨by omega, ?_, Bk.au, Ch.au⟩
                  first
                  | (rw [decide_eq_true_iff]
                     have hb := hbb.1 (by assumption)
                     constructor
                     · intro k
                       refine ⟨hb.1, hb.2.1, hb.2.2.1, fun j hj => ?_⟩
                       rcases Nat.lt_or_ge j i with h | h
                       · exact hb.2.2.2 j h
                       · have e : j = i := by omega
                         subst e; omega
                     · intro k
                       have := k.2.2.2 i (by omega)
                       omega)
                  | (constructor
                     · intro h; cases h
                     · intro k
                       have h := hbb.2 ⟨k.1, k.2.1, k.2.2.1, fun j hj => k.2.2.2 j (by omega)⟩
                       have h2 : b = false := by assumption
                       rw [h2] at h; cases h)
              · refine W_exit ?_
                repeat (first | refine blk_hit ?_ | refine blk_miss rfl ?_)
                refine ⟨trivial, (dec_b (by clear hck htk; first
| (unfold okQ; simp_all; done)
| (have e : x.s.size = i := by omega
   refine hbb.trans ⟨fun ⟨k1, k2, k3, k4⟩ => ⟨k1, fun _ => ?_⟩, fun ⟨k1, k2⟩ => ?_⟩
   · rw [tp_word (by assumption)]; exact ⟨k2, k3, (nonl_iff _).2 fun j hj => k4 j (by omega)⟩
   · have k3 := k2 (by assumption)
     rw [tp_word (by assumption)] at k3
     exact ⟨k1, k3.1, k3.2.1, fun j hj => (nonl_iff _).1 k3.2.2 j (by omega)⟩)
| (unfold okQ; rw [tp_new (by assumption) (by assumption)]; simp_all; done)
| (unfold okQ; rw [tp_is (by assumption) (by assumption) (by first | exact .inl (by assumption) | exact .inr (by assumption))]; simp_all; done)
| (unfold okQ; rw [tp_array (by assumption) (by assumption) (by assumption) (by assumption) (by assumption)]; simp_all; done)
| (unfold okQ; rw [tp_array (by assumption) (by assumption) (by assumption) (by assumption) (by assumption)]; simp_all; (try unfold deepN); simp_all; omega)
| (unfold okQ; rw [tp_else (by assumption) (by assumption) (by assumption) (by assumption) (by assumption)]; simp_all; done))), ?_⟩
                exact ⟨Bk.au, Ch.au⟩
            · refine L_ps ?_
              refine L_ps ?_
              refine L_ps ?_
              refine L_r (r_pf rfl rfl) ?_
              refine L_r (r_ab rfl) ?_
              refine L_nil ?_
              refine W_seq ?_
              refine W_region ?_
              refine L_r (r_ai rfl) ?_
              refine L_nil ?_
              refine W_block ?_
              refine W_loopF [1] (fun mz_ f W => ∃ (i : Nat) (b : Bool), f 4 = .bool b ∧ f 5 = .int .i64 i ∧ (i ≤ x.s.size ∧ (b = true ↔ (okR r x ∧ x.s.size ≤ 64 ∧ Lib.validD (bs x.s) = true ∧ ∀ j, j < i → (bat x.s j).toNat ≠ 10)) ∧ Bk W b1 #[.string x.op, .int .i64 x.n, .string x.s] 47 ∧ Nw w0 W) ∧ mz_ = x.s.size - i) ?_ ?_
              · refine ⟨_, 0, _, rfl, rfl, ?_, rfl⟩
                refine ⟨by omega, ?_, Bk.au, Ch.au⟩
                clear hck htk
                have e : ∀ j, j < 0 → (bat x.s j).toNat ≠ 10 := fun j hj => absurd hj (by omega)
                first
                | (have e2 : x.s.size ≤ 64 := by omega
                   simp_all; done)
                | (have e2 : ¬ x.s.size ≤ 64 := by omega
                   exact ⟨fun h => (by cases h), fun k => absurd k.2.1 e2⟩)
                | (simp_all; done)
              rintro m0 g0 w6 ⟨i, b, hf4, hf5, hR0, rfl⟩
              refine W_as 4 hf4 rfl ?_
              refine W_as 5 hf5 rfl ?_
              clear hf4 hf5
              obtain ⟨hi, hbb, hbk, hnw⟩ := hR0
              have hz := hnw.size
              refine W_seq ?_
              refine W_seq ?_
              refine W_region ?_
              refine L_r (r_mi rfl) ?_
              refine L_r (r_fieldb Tryz.underlying47 rfl (show _ = some 1 from rfl) rfl rfl (show _ = 2 from rfl)) ?_
              refine L_r (r_lb rfl rfl) ?_
              refine L_r (r_lens Tryz.underlying9 rfl) ?_
              refine L_r (r_lss rfl rfl) ?_
              refine L_nil ?_
              refine W_if rfl (fun h63 => ?_) (fun h63 => ?_)
              · refine W_skip ?_
                refine W_seq ?_
                refine W_block ?_
                refine W_region ?_
                refine L_r (r_mb rfl) ?_
                refine L_r (r_mb rfl) ?_
                refine L_caseb (d := 67) rfl (fun h67 => ?_) (fun h67 => ?_)
                · refine L_g (r_fieldb Tryz.underlying47 rfl (show _ = some 1 from rfl) rfl rfl (show _ = 2 from rfl)) ?_
                  refine L_g (r_lb rfl rfl) ?_
                  refine L_g (r_mi rfl) ?_
                  refine L_g (r_indexs Tryz.underlying9 rfl rfl (by omega) (by omega) (by conv => lhs; (try simp only [Nat.mul_one, Nat.zero_add, Int.toNat_natCast, Int.toNat_zero, Int.reduceToNat, Nat.reduceMul, Nat.reduceAdd]))) ?_
                  refine L_g (r_neq rfl rfl) ?_
                  refine L_r (r_pt rfl rfl) ?_
                  refine L_r (r_ab rfl) ?_
                  refine L_nil ?_
                  refine W_region ?_
                  refine L_r (r_mi rfl) ?_
                  refine L_r (r_add rfl rfl (by first | exact wr_i64 (by omega) | rfl)) ?_
                  refine L_r (r_ai rfl) ?_
                  refine L_nil ?_
                  refine ⟨⟨fx2, trivial⟩, _, ?_, i + 1, _, rfl, rfl, ?_, rfl⟩
                  · omega
                  refine ⟨by omega, ?_, Bk.au, Ch.au⟩
                  first
                  | (rw [decide_eq_true_iff]
                     have hb := hbb.1 (by assumption)
                     constructor
                     · intro k
                       refine ⟨hb.1, hb.2.1, hb.2.2.1, fun j hj => ?_⟩
                       rcases Nat.lt_or_ge j i with h | h
                       · exact hb.2.2.2 j h
                       · have e : j = i := by omega
                         subst e; omega
                     · intro k
                       have := k.2.2.2 i (by omega)
                       omega)
                  | (constructor
                     · intro h; cases h
                     · intro k
                       have h := hbb.2 ⟨k.1, k.2.1, k.2.2.1, fun j hj => k.2.2.2 j (by omega)⟩
                       have h2 : b = false := by assumption
                       rw [h2] at h; cases h)
                · refine L_ps ?_
                  refine L_ps ?_
                  refine L_ps ?_
                  refine L_ps ?_
                  refine L_ps ?_
                  refine L_r (r_pf rfl rfl) ?_
                  refine L_r (r_ab rfl) ?_
                  refine L_nil ?_
                  refine W_region ?_
                  refine L_r (r_mi rfl) ?_
                  refine L_r (r_add rfl rfl (by first | exact wr_i64 (by omega) | rfl)) ?_
                  refine L_r (r_ai rfl) ?_
                  refine L_nil ?_
                  refine ⟨⟨fx2, trivial⟩, _, ?_, i + 1, _, rfl, rfl, ?_, rfl⟩
                  · omega
                  refine ⟨by omega, ?_, Bk.au, Ch.au⟩
                  first
                  | (rw [decide_eq_true_iff]
                     have hb := hbb.1 (by assumption)
                     constructor
                     · intro k
                       refine ⟨hb.1, hb.2.1, hb.2.2.1, fun j hj => ?_⟩
                       rcases Nat.lt_or_ge j i with h | h
                       · exact hb.2.2.2 j h
                       · have e : j = i := by omega
                         subst e; omega
                     · intro k
                       have := k.2.2.2 i (by omega)
                       omega)
                  | (constructor
                     · intro h; cases h
                     · intro k
                       have h := hbb.2 ⟨k.1, k.2.1, k.2.2.1, fun j hj => k.2.2.2 j (by omega)⟩
                       have h2 : b = false := by assumption
                       rw [h2] at h; cases h)
              · refine W_exit ?_
                repeat (first | refine blk_hit ?_ | refine blk_miss rfl ?_)
                refine ⟨trivial, (dec_b (by clear hck htk; first
| (unfold okQ; simp_all; done)
| (have e : x.s.size = i := by omega
   refine hbb.trans ⟨fun ⟨k1, k2, k3, k4⟩ => ⟨k1, fun _ => ?_⟩, fun ⟨k1, k2⟩ => ?_⟩
   · rw [tp_word (by assumption)]; exact ⟨k2, k3, (nonl_iff _).2 fun j hj => k4 j (by omega)⟩
   · have k3 := k2 (by assumption)
     rw [tp_word (by assumption)] at k3
     exact ⟨k1, k3.1, k3.2.1, fun j hj => (nonl_iff _).1 k3.2.2 j (by omega)⟩)
| (unfold okQ; rw [tp_new (by assumption) (by assumption)]; simp_all; done)
| (unfold okQ; rw [tp_is (by assumption) (by assumption) (by first | exact .inl (by assumption) | exact .inr (by assumption))]; simp_all; done)
| (unfold okQ; rw [tp_array (by assumption) (by assumption) (by assumption) (by assumption) (by assumption)]; simp_all; done)
| (unfold okQ; rw [tp_array (by assumption) (by assumption) (by assumption) (by assumption) (by assumption)]; simp_all; (try unfold deepN); simp_all; omega)
| (unfold okQ; rw [tp_else (by assumption) (by assumption) (by assumption) (by assumption) (by assumption)]; simp_all; done))), ?_⟩
                exact ⟨Bk.au, Ch.au⟩
          · refine L_ps ?_
            refine L_ps ?_
            refine L_ps ?_
            refine L_ps ?_
            refine L_r (r_pf rfl rfl) ?_
            refine L_r (r_mb rfl) ?_
            refine L_ps ?_
            refine L_ps ?_
            refine L_ps ?_
            refine L_r (r_pf rfl rfl) ?_
            refine L_r (r_ab rfl) ?_
            refine L_nil ?_
            refine W_seq ?_
            refine W_region ?_
            refine L_r (r_ai rfl) ?_
            refine L_nil ?_
            refine W_block ?_
            refine W_loopF [1] (fun mz_ f W => ∃ (i : Nat) (b : Bool), f 4 = .bool b ∧ f 5 = .int .i64 i ∧ (i ≤ x.s.size ∧ (b = true ↔ (okR r x ∧ x.s.size ≤ 64 ∧ Lib.validD (bs x.s) = true ∧ ∀ j, j < i → (bat x.s j).toNat ≠ 10)) ∧ Bk W b1 #[.string x.op, .int .i64 x.n, .string x.s] 47 ∧ Nw w0 W) ∧ mz_ = x.s.size - i) ?_ ?_
            · refine ⟨_, 0, _, rfl, rfl, ?_, rfl⟩
              refine ⟨by omega, ?_, Bk.au, Ch.au⟩
              clear hck htk
              have e : ∀ j, j < 0 → (bat x.s j).toNat ≠ 10 := fun j hj => absurd hj (by omega)
              first
              | (have e2 : x.s.size ≤ 64 := by omega
                 simp_all; done)
              | (have e2 : ¬ x.s.size ≤ 64 := by omega
                 exact ⟨fun h => (by cases h), fun k => absurd k.2.1 e2⟩)
              | (simp_all; done)
            rintro m0 g0 w7 ⟨i, b, hf4, hf5, hR0, rfl⟩
            refine W_as 4 hf4 rfl ?_
            refine W_as 5 hf5 rfl ?_
            clear hf4 hf5
            obtain ⟨hi, hbb, hbk, hnw⟩ := hR0
            have hz := hnw.size
            refine W_seq ?_
            refine W_seq ?_
            refine W_region ?_
            refine L_r (r_mi rfl) ?_
            refine L_r (r_fieldb Tryz.underlying47 rfl (show _ = some 1 from rfl) rfl rfl (show _ = 2 from rfl)) ?_
            refine L_r (r_lb rfl rfl) ?_
            refine L_r (r_lens Tryz.underlying9 rfl) ?_
            refine L_r (r_lss rfl rfl) ?_
            refine L_nil ?_
            refine W_if rfl (fun h63 => ?_) (fun h63 => ?_)
            · refine W_skip ?_
              refine W_seq ?_
              refine W_block ?_
              refine W_region ?_
              refine L_r (r_mb rfl) ?_
              refine L_r (r_mb rfl) ?_
              refine L_caseb (d := 67) rfl (fun h67 => ?_) (fun h67 => ?_)
              · refine L_g (r_fieldb Tryz.underlying47 rfl (show _ = some 1 from rfl) rfl rfl (show _ = 2 from rfl)) ?_
                refine L_g (r_lb rfl rfl) ?_
                refine L_g (r_mi rfl) ?_
                refine L_g (r_indexs Tryz.underlying9 rfl rfl (by omega) (by omega) (by conv => lhs; (try simp only [Nat.mul_one, Nat.zero_add, Int.toNat_natCast, Int.toNat_zero, Int.reduceToNat, Nat.reduceMul, Nat.reduceAdd]))) ?_
                refine L_g (r_neq rfl rfl) ?_
                refine L_r (r_pt rfl rfl) ?_
                refine L_r (r_ab rfl) ?_
                refine L_nil ?_
                refine W_region ?_
                refine L_r (r_mi rfl) ?_
                refine L_r (r_add rfl rfl (by first | exact wr_i64 (by omega) | rfl)) ?_
                refine L_r (r_ai rfl) ?_
                refine L_nil ?_
                refine ⟨⟨fx2, trivial⟩, _, ?_, i + 1, _, rfl, rfl, ?_, rfl⟩
                · omega
                refine ⟨by omega, ?_, Bk.au, Ch.au⟩
                first
                | (rw [decide_eq_true_iff]
                   have hb := hbb.1 (by assumption)
                   constructor
                   · intro k
                     refine ⟨hb.1, hb.2.1, hb.2.2.1, fun j hj => ?_⟩
                     rcases Nat.lt_or_ge j i with h | h
                     · exact hb.2.2.2 j h
                     · have e : j = i := by omega
                       subst e; omega
                   · intro k
                     have := k.2.2.2 i (by omega)
                     omega)
                | (constructor
                   · intro h; cases h
                   · intro k
                     have h := hbb.2 ⟨k.1, k.2.1, k.2.2.1, fun j hj => k.2.2.2 j (by omega)⟩
                     have h2 : b = false := by assumption
                     rw [h2] at h; cases h)
              · refine L_ps ?_
                refine L_ps ?_
                refine L_ps ?_
                refine L_ps ?_
                refine L_ps ?_
                refine L_r (r_pf rfl rfl) ?_
                refine L_r (r_ab rfl) ?_
                refine L_nil ?_
                refine W_region ?_
                refine L_r (r_mi rfl) ?_
                refine L_r (r_add rfl rfl (by first | exact wr_i64 (by omega) | rfl)) ?_
                refine L_r (r_ai rfl) ?_
                refine L_nil ?_
                refine ⟨⟨fx2, trivial⟩, _, ?_, i + 1, _, rfl, rfl, ?_, rfl⟩
                · omega
                refine ⟨by omega, ?_, Bk.au, Ch.au⟩
                first
                | (rw [decide_eq_true_iff]
                   have hb := hbb.1 (by assumption)
                   constructor
                   · intro k
                     refine ⟨hb.1, hb.2.1, hb.2.2.1, fun j hj => ?_⟩
                     rcases Nat.lt_or_ge j i with h | h
                     · exact hb.2.2.2 j h
                     · have e : j = i := by omega
                       subst e; omega
                   · intro k
                     have := k.2.2.2 i (by omega)
                     omega)
                | (constructor
                   · intro h; cases h
                   · intro k
                     have h := hbb.2 ⟨k.1, k.2.1, k.2.2.1, fun j hj => k.2.2.2 j (by omega)⟩
                     have h2 : b = false := by assumption
                     rw [h2] at h; cases h)
            · refine W_exit ?_
              repeat (first | refine blk_hit ?_ | refine blk_miss rfl ?_)
              refine ⟨trivial, (dec_b (by clear hck htk; first
| (unfold okQ; simp_all; done)
| (have e : x.s.size = i := by omega
   refine hbb.trans ⟨fun ⟨k1, k2, k3, k4⟩ => ⟨k1, fun _ => ?_⟩, fun ⟨k1, k2⟩ => ?_⟩
   · rw [tp_word (by assumption)]; exact ⟨k2, k3, (nonl_iff _).2 fun j hj => k4 j (by omega)⟩
   · have k3 := k2 (by assumption)
     rw [tp_word (by assumption)] at k3
     exact ⟨k1, k3.1, k3.2.1, fun j hj => (nonl_iff _).1 k3.2.2 j (by omega)⟩)
| (unfold okQ; rw [tp_new (by assumption) (by assumption)]; simp_all; done)
| (unfold okQ; rw [tp_is (by assumption) (by assumption) (by first | exact .inl (by assumption) | exact .inr (by assumption))]; simp_all; done)
| (unfold okQ; rw [tp_array (by assumption) (by assumption) (by assumption) (by assumption) (by assumption)]; simp_all; done)
| (unfold okQ; rw [tp_array (by assumption) (by assumption) (by assumption) (by assumption) (by assumption)]; simp_all; (try unfold deepN); simp_all; omega)
| (unfold okQ; rw [tp_else (by assumption) (by assumption) (by assumption) (by assumption) (by assumption)]; simp_all; done))), ?_⟩
              exact ⟨Bk.au, Ch.au⟩
        · refine W_seq ?_
          refine W_region ?_
          refine L_r (r_eqls rfl rfl) ?_
          refine L_r (r_ab rfl) ?_
          refine L_nil ?_
          refine W_if rfl (fun h74 => ?_) (fun h74 => ?_)
          · refine W_region ?_
            refine L_r (r_mb rfl) ?_
            refine L_r (r_mb rfl) ?_
            refine L_case (d := 77) rfl (fun h77 => ?_) (fun h77 => ?_)
            · refine L_g (r_fieldb Tryz.underlying47 rfl (show _ = some 1 from rfl) rfl rfl (show _ = 2 from rfl)) ?_
              refine L_g (r_lb rfl rfl) ?_
              refine L_call (.yes 1 true rfl rfl) rfl rfl (r_call Tryz.func49 rfl rfl rfl (by rfl)) (rclass_walk x.s _ (by omega)) ?_
              rintro v80 w8 ⟨rfl, c8⟩
              have hz8 := c8.size
              refine L_r (r_pt rfl rfl) ?_
              refine L_r (r_ab rfl) ?_
              refine L_nil ?_
              refine ⟨trivial, (dec_b (by clear hck htk; first
| (unfold okQ; simp_all; done)
| (have e : x.s.size = i := by omega
   refine hbb.trans ⟨fun ⟨k1, k2, k3, k4⟩ => ⟨k1, fun _ => ?_⟩, fun ⟨k1, k2⟩ => ?_⟩
   · rw [tp_word (by assumption)]; exact ⟨k2, k3, (nonl_iff _).2 fun j hj => k4 j (by omega)⟩
   · have k3 := k2 (by assumption)
     rw [tp_word (by assumption)] at k3
     exact ⟨k1, k3.1, k3.2.1, fun j hj => (nonl_iff _).1 k3.2.2 j (by omega)⟩)
| (unfold okQ; rw [tp_new (by assumption) (by assumption)]; simp_all; done)
| (unfold okQ; rw [tp_is (by assumption) (by assumption) (by first | exact .inl (by assumption) | exact .inr (by assumption))]; simp_all; done)
| (unfold okQ; rw [tp_array (by assumption) (by assumption) (by assumption) (by assumption) (by assumption)]; simp_all; done)
| (unfold okQ; rw [tp_array (by assumption) (by assumption) (by assumption) (by assumption) (by assumption)]; simp_all; (try unfold deepN); simp_all; omega)
| (unfold okQ; rw [tp_else (by assumption) (by assumption) (by assumption) (by assumption) (by assumption)]; simp_all; done))), ?_⟩
              exact ⟨Bk.au, Ch.au⟩
            · refine L_ps ?_
              refine L_ps ?_
              refine L_ps ?_
              refine L_r (r_pf rfl rfl) ?_
              refine L_r (r_ab rfl) ?_
              refine L_nil ?_
              refine ⟨trivial, (dec_f (by clear hck htk; first
| (unfold okQ; simp_all; done)
| (have e : x.s.size = i := by omega
   refine hbb.trans ⟨fun ⟨k1, k2, k3, k4⟩ => ⟨k1, fun _ => ?_⟩, fun ⟨k1, k2⟩ => ?_⟩
   · rw [tp_word (by assumption)]; exact ⟨k2, k3, (nonl_iff _).2 fun j hj => k4 j (by omega)⟩
   · have k3 := k2 (by assumption)
     rw [tp_word (by assumption)] at k3
     exact ⟨k1, k3.1, k3.2.1, fun j hj => (nonl_iff _).1 k3.2.2 j (by omega)⟩)
| (unfold okQ; rw [tp_new (by assumption) (by assumption)]; simp_all; done)
| (unfold okQ; rw [tp_is (by assumption) (by assumption) (by first | exact .inl (by assumption) | exact .inr (by assumption))]; simp_all; done)
| (unfold okQ; rw [tp_array (by assumption) (by assumption) (by assumption) (by assumption) (by assumption)]; simp_all; done)
| (unfold okQ; rw [tp_array (by assumption) (by assumption) (by assumption) (by assumption) (by assumption)]; simp_all; (try unfold deepN); simp_all; omega)
| (unfold okQ; rw [tp_else (by assumption) (by assumption) (by assumption) (by assumption) (by assumption)]; simp_all; done))), ?_⟩
              exact ⟨Bk.au, Ch.au⟩
          · refine W_seq ?_
            refine W_seq ?_
            refine W_region ?_
            refine L_r (r_eqls rfl rfl) ?_
            refine L_r (r_ab rfl) ?_
            refine L_nil ?_
            refine W_if rfl (fun h82 => ?_) (fun h82 => ?_)
            · refine W_skip ?_
              refine W_if rfl (fun h82 => ?_) (fun h82 => ?_)
              · refine W_region ?_
                refine L_r (r_mb rfl) ?_
                refine L_r (r_mb rfl) ?_
                refine L_case (d := 86) rfl (fun h86 => ?_) (fun h86 => ?_)
                · refine L_g (r_fieldb Tryz.underlying47 rfl (show _ = some 1 from rfl) rfl rfl (show _ = 2 from rfl)) ?_
                  refine L_g (r_lb rfl rfl) ?_
                  refine L_call (.yes 1 true rfl rfl) rfl rfl (r_call Tryz.func50 rfl rfl rfl (by rfl)) (rright_walk x.s _ hs) ?_
                  rintro v89 w9 ⟨rfl, c9⟩
                  have hz9 := c9.size
                  refine L_r (r_pt rfl rfl) ?_
                  refine L_r (r_mb rfl) ?_
                  refine L_caseb (d := 91) rfl (fun h91 => ?_) (fun h91 => ?_)
                  · refine L_g (r_fieldb Tryz.underlying47 rfl (show _ = some 1 from rfl) rfl rfl (show _ = 2 from rfl)) ?_
                    refine L_g (r_lb rfl rfl) ?_
                    refine L_call (.yes 6 true rfl rfl) rfl rfl (r_call Tryz.func51 rfl rfl rfl (by rfl)) (rplain_walk x.s _) ?_
                    rintro v94 w10 ⟨rfl, rfl⟩
                    refine L_g (r_not rfl) ?_
                    refine L_r (r_pt rfl rfl) ?_
                    refine L_r (r_ab rfl) ?_
                    refine L_nil ?_
                    refine ⟨trivial, (dec_b (by clear hck htk; first
| (unfold okQ; simp_all; done)
| (have e : x.s.size = i := by omega
   refine hbb.trans ⟨fun ⟨k1, k2, k3, k4⟩ => ⟨k1, fun _ => ?_⟩, fun ⟨k1, k2⟩ => ?_⟩
   · rw [tp_word (by assumption)]; exact ⟨k2, k3, (nonl_iff _).2 fun j hj => k4 j (by omega)⟩
   · have k3 := k2 (by assumption)
     rw [tp_word (by assumption)] at k3
     exact ⟨k1, k3.1, k3.2.1, fun j hj => (nonl_iff _).1 k3.2.2 j (by omega)⟩)
| (unfold okQ; rw [tp_new (by assumption) (by assumption)]; simp_all; done)
| (unfold okQ; rw [tp_is (by assumption) (by assumption) (by first | exact .inl (by assumption) | exact .inr (by assumption))]; simp_all; done)
| (unfold okQ; rw [tp_array (by assumption) (by assumption) (by assumption) (by assumption) (by assumption)]; simp_all; done)
| (unfold okQ; rw [tp_array (by assumption) (by assumption) (by assumption) (by assumption) (by assumption)]; simp_all; (try unfold deepN); simp_all; omega)
| (unfold okQ; rw [tp_else (by assumption) (by assumption) (by assumption) (by assumption) (by assumption)]; simp_all; done))), ?_⟩
                    exact ⟨Bk.au, Ch.au⟩
                  · refine L_ps ?_
                    refine L_ps ?_
                    refine L_ps ?_
                    refine L_ps ?_
                    refine L_r (r_pf rfl rfl) ?_
                    refine L_r (r_ab rfl) ?_
                    refine L_nil ?_
                    refine ⟨trivial, (dec_f (by clear hck htk; first
| (unfold okQ; simp_all; done)
| (have e : x.s.size = i := by omega
   refine hbb.trans ⟨fun ⟨k1, k2, k3, k4⟩ => ⟨k1, fun _ => ?_⟩, fun ⟨k1, k2⟩ => ?_⟩
   · rw [tp_word (by assumption)]; exact ⟨k2, k3, (nonl_iff _).2 fun j hj => k4 j (by omega)⟩
   · have k3 := k2 (by assumption)
     rw [tp_word (by assumption)] at k3
     exact ⟨k1, k3.1, k3.2.1, fun j hj => (nonl_iff _).1 k3.2.2 j (by omega)⟩)
| (unfold okQ; rw [tp_new (by assumption) (by assumption)]; simp_all; done)
| (unfold okQ; rw [tp_is (by assumption) (by assumption) (by first | exact .inl (by assumption) | exact .inr (by assumption))]; simp_all; done)
| (unfold okQ; rw [tp_array (by assumption) (by assumption) (by assumption) (by assumption) (by assumption)]; simp_all; done)
| (unfold okQ; rw [tp_array (by assumption) (by assumption) (by assumption) (by assumption) (by assumption)]; simp_all; (try unfold deepN); simp_all; omega)
| (unfold okQ; rw [tp_else (by assumption) (by assumption) (by assumption) (by assumption) (by assumption)]; simp_all; done))), ?_⟩
                    exact ⟨Bk.au, Ch.au⟩
                · refine L_ps ?_
                  refine L_ps ?_
                  refine L_ps ?_
                  refine L_r (r_pf rfl rfl) ?_
                  refine L_r (r_mb rfl) ?_
                  refine L_ps ?_
                  refine L_ps ?_
                  refine L_ps ?_
                  refine L_ps ?_
                  refine L_r (r_pf rfl rfl) ?_
                  refine L_r (r_ab rfl) ?_
                  refine L_nil ?_
                  refine ⟨trivial, (dec_f (by clear hck htk; first
| (unfold okQ; simp_all; done)
| (have e : x.s.size = i := by omega
   refine hbb.trans ⟨fun ⟨k1, k2, k3, k4⟩ => ⟨k1, fun _ => ?_⟩, fun ⟨k1, k2⟩ => ?_⟩
   · rw [tp_word (by assumption)]; exact ⟨k2, k3, (nonl_iff _).2 fun j hj => k4 j (by omega)⟩
   · have k3 := k2 (by assumption)
     rw [tp_word (by assumption)] at k3
     exact ⟨k1, k3.1, k3.2.1, fun j hj => (nonl_iff _).1 k3.2.2 j (by omega)⟩)
| (unfold okQ; rw [tp_new (by assumption) (by assumption)]; simp_all; done)
| (unfold okQ; rw [tp_is (by assumption) (by assumption) (by first | exact .inl (by assumption) | exact .inr (by assumption))]; simp_all; done)
| (unfold okQ; rw [tp_array (by assumption) (by assumption) (by assumption) (by assumption) (by assumption)]; simp_all; done)
| (unfold okQ; rw [tp_array (by assumption) (by assumption) (by assumption) (by assumption) (by assumption)]; simp_all; (try unfold deepN); simp_all; omega)
| (unfold okQ; rw [tp_else (by assumption) (by assumption) (by assumption) (by assumption) (by assumption)]; simp_all; done))), ?_⟩
                  exact ⟨Bk.au, Ch.au⟩
              · refine W_seq ?_
                refine W_region ?_
                refine L_r (r_eqls rfl rfl) ?_
                refine L_r (r_ab rfl) ?_
                refine L_nil ?_
                refine W_if rfl (fun h97 => ?_) (fun h97 => ?_)
                · refine W_region ?_
                  refine L_r (r_mb rfl) ?_
                  refine L_r (r_mb rfl) ?_
                  refine L_case (d := 100) rfl (fun h100 => ?_) (fun h100 => ?_)
                  · refine L_g (r_fieldb Tryz.underlying47 rfl (show _ = some 1 from rfl) rfl rfl (show _ = 2 from rfl)) ?_
                    refine L_g (r_lb rfl rfl) ?_
                    refine L_call (.yes 1 true rfl rfl) rfl rfl (r_call Tryz.func50 rfl rfl rfl (by rfl)) (rright_walk x.s _ hs) ?_
                    rintro v103 w11 ⟨rfl, c11⟩
                    have hz11 := c11.size
                    refine L_r (r_pt rfl rfl) ?_
                    refine L_r (r_mb rfl) ?_
                    refine L_caseb (d := 105) rfl (fun h105 => ?_) (fun h105 => ?_)
                    · refine L_g (r_fieldb Tryz.underlying47 rfl (show _ = some 1 from rfl) rfl rfl (show _ = 2 from rfl)) ?_
                      refine L_g (r_lb rfl rfl) ?_
                      refine L_call (.yes 6 true rfl rfl) rfl rfl (r_call Tryz.func52 rfl rfl rfl (by rfl)) (rdeep_walk x.s _ hs) ?_
                      rintro v108 w12 ⟨rfl, c12⟩
                      have hz12 := c12.size
                      refine L_g (r_lss rfl rfl) ?_
                      refine L_r (r_pt rfl rfl) ?_
                      refine L_r (r_ab rfl) ?_
                      refine L_nil ?_
                      refine ⟨trivial, (dec_i (by clear hck htk; first
| (unfold okQ; simp_all; done)
| (have e : x.s.size = i := by omega
   refine hbb.trans ⟨fun ⟨k1, k2, k3, k4⟩ => ⟨k1, fun _ => ?_⟩, fun ⟨k1, k2⟩ => ?_⟩
   · rw [tp_word (by assumption)]; exact ⟨k2, k3, (nonl_iff _).2 fun j hj => k4 j (by omega)⟩
   · have k3 := k2 (by assumption)
     rw [tp_word (by assumption)] at k3
     exact ⟨k1, k3.1, k3.2.1, fun j hj => (nonl_iff _).1 k3.2.2 j (by omega)⟩)
| (unfold okQ; rw [tp_new (by assumption) (by assumption)]; simp_all; done)
| (unfold okQ; rw [tp_is (by assumption) (by assumption) (by first | exact .inl (by assumption) | exact .inr (by assumption))]; simp_all; done)
| (unfold okQ; rw [tp_array (by assumption) (by assumption) (by assumption) (by assumption) (by assumption)]; simp_all; done)
| (unfold okQ; rw [tp_array (by assumption) (by assumption) (by assumption) (by assumption) (by assumption)]; simp_all; (try unfold deepN); simp_all; omega)
| (unfold okQ; rw [tp_else (by assumption) (by assumption) (by assumption) (by assumption) (by assumption)]; simp_all; done))), ?_⟩
                      exact ⟨Bk.au, Ch.au⟩
                    · refine L_ps ?_
                      refine L_ps ?_
                      refine L_ps ?_
                      refine L_ps ?_
                      refine L_r (r_pf rfl rfl) ?_
                      refine L_r (r_ab rfl) ?_
                      refine L_nil ?_
                      refine ⟨trivial, (dec_f (by clear hck htk; first
| (unfold okQ; simp_all; done)
| (have e : x.s.size = i := by omega
   refine hbb.trans ⟨fun ⟨k1, k2, k3, k4⟩ => ⟨k1, fun _ => ?_⟩, fun ⟨k1, k2⟩ => ?_⟩
   · rw [tp_word (by assumption)]; exact ⟨k2, k3, (nonl_iff _).2 fun j hj => k4 j (by omega)⟩
   · have k3 := k2 (by assumption)
     rw [tp_word (by assumption)] at k3
     exact ⟨k1, k3.1, k3.2.1, fun j hj => (nonl_iff _).1 k3.2.2 j (by omega)⟩)
| (unfold okQ; rw [tp_new (by assumption) (by assumption)]; simp_all; done)
| (unfold okQ; rw [tp_is (by assumption) (by assumption) (by first | exact .inl (by assumption) | exact .inr (by assumption))]; simp_all; done)
| (unfold okQ; rw [tp_array (by assumption) (by assumption) (by assumption) (by assumption) (by assumption)]; simp_all; done)
| (unfold okQ; rw [tp_array (by assumption) (by assumption) (by assumption) (by assumption) (by assumption)]; simp_all; (try unfold deepN); simp_all; omega)
| (unfold okQ; rw [tp_else (by assumption) (by assumption) (by assumption) (by assumption) (by assumption)]; simp_all; done))), ?_⟩
                      exact ⟨Bk.au, Ch.au⟩
                  · refine L_ps ?_
                    refine L_ps ?_
                    refine L_ps ?_
                    refine L_r (r_pf rfl rfl) ?_
                    refine L_r (r_mb rfl) ?_
                    refine L_ps ?_
                    refine L_ps ?_
                    refine L_ps ?_
                    refine L_ps ?_
                    refine L_r (r_pf rfl rfl) ?_
                    refine L_r (r_ab rfl) ?_
                    refine L_nil ?_
                    refine ⟨trivial, (dec_f (by clear hck htk; first
| (unfold okQ; simp_all; done)
| (have e : x.s.size = i := by omega
   refine hbb.trans ⟨fun ⟨k1, k2, k3, k4⟩ => ⟨k1, fun _ => ?_⟩, fun ⟨k1, k2⟩ => ?_⟩
   · rw [tp_word (by assumption)]; exact ⟨k2, k3, (nonl_iff _).2 fun j hj => k4 j (by omega)⟩
   · have k3 := k2 (by assumption)
     rw [tp_word (by assumption)] at k3
     exact ⟨k1, k3.1, k3.2.1, fun j hj => (nonl_iff _).1 k3.2.2 j (by omega)⟩)
| (unfold okQ; rw [tp_new (by assumption) (by assumption)]; simp_all; done)
| (unfold okQ; rw [tp_is (by assumption) (by assumption) (by first | exact .inl (by assumption) | exact .inr (by assumption))]; simp_all; done)
| (unfold okQ; rw [tp_array (by assumption) (by assumption) (by assumption) (by assumption) (by assumption)]; simp_all; done)
| (unfold okQ; rw [tp_array (by assumption) (by assumption) (by assumption) (by assumption) (by assumption)]; simp_all; (try unfold deepN); simp_all; omega)
| (unfold okQ; rw [tp_else (by assumption) (by assumption) (by assumption) (by assumption) (by assumption)]; simp_all; done))), ?_⟩
                    exact ⟨Bk.au, Ch.au⟩
                · refine W_seq ?_
                  refine W_region ?_
                  refine L_r (r_fieldb Tryz.underlying47 rfl (show _ = some 1 from rfl) rfl rfl (show _ = 2 from rfl)) ?_
                  refine L_r (r_lb rfl rfl) ?_
                  refine L_call (.plain rfl) rfl rfl (r_call Tryz.func53 rfl rfl rfl (by rfl)) (rparts_walk x.s _ hs) ?_
                  rintro v37 w13 ⟨⟨px, py, rfl, _⟩, c13⟩
                  have hz13 := c13.size
                  refine L_r (r_mv) ?_
                  refine L_r (r_ext3_0 rfl) ?_
                  refine L_r (r_ext3_1 rfl) ?_
                  refine L_r (r_ext3_2 rfl) ?_
                  refine L_r (r_as rfl) ?_
                  refine L_r (r_as rfl) ?_
                  refine L_r (r_ab rfl) ?_
                  refine L_nil ?_
                  refine W_region ?_
                  refine L_r (r_mb rfl) ?_
                  refine L_r (r_mb rfl) ?_
                  refine L_case (d := 42) rfl (fun h42 => ?_) (fun h42 => ?_)
                  · refine L_g (r_mb rfl) ?_
                    refine L_r (r_pt rfl rfl) ?_
                    refine L_r (r_ab rfl) ?_
                    refine L_nil ?_
                    refine ⟨trivial, (dec_b (by clear hck htk; first
| (unfold okQ; simp_all; done)
| (have e : x.s.size = i := by omega
   refine hbb.trans ⟨fun ⟨k1, k2, k3, k4⟩ => ⟨k1, fun _ => ?_⟩, fun ⟨k1, k2⟩ => ?_⟩
   · rw [tp_word (by assumption)]; exact ⟨k2, k3, (nonl_iff _).2 fun j hj => k4 j (by omega)⟩
   · have k3 := k2 (by assumption)
     rw [tp_word (by assumption)] at k3
     exact ⟨k1, k3.1, k3.2.1, fun j hj => (nonl_iff _).1 k3.2.2 j (by omega)⟩)
| (unfold okQ; rw [tp_new (by assumption) (by assumption)]; simp_all; done)
| (unfold okQ; rw [tp_is (by assumption) (by assumption) (by first | exact .inl (by assumption) | exact .inr (by assumption))]; simp_all; done)
| (unfold okQ; rw [tp_array (by assumption) (by assumption) (by assumption) (by assumption) (by assumption)]; simp_all; done)
| (unfold okQ; rw [tp_array (by assumption) (by assumption) (by assumption) (by assumption) (by assumption)]; simp_all; (try unfold deepN); simp_all; omega)
| (unfold okQ; rw [tp_else (by assumption) (by assumption) (by assumption) (by assumption) (by assumption)]; simp_all; done))), ?_⟩
                    exact ⟨Bk.au, Ch.au⟩
                  · refine L_ps ?_
                    refine L_r (r_pf rfl rfl) ?_
                    refine L_r (r_ab rfl) ?_
                    refine L_nil ?_
                    refine ⟨trivial, (dec_f (by clear hck htk; first
| (unfold okQ; simp_all; done)
| (have e : x.s.size = i := by omega
   refine hbb.trans ⟨fun ⟨k1, k2, k3, k4⟩ => ⟨k1, fun _ => ?_⟩, fun ⟨k1, k2⟩ => ?_⟩
   · rw [tp_word (by assumption)]; exact ⟨k2, k3, (nonl_iff _).2 fun j hj => k4 j (by omega)⟩
   · have k3 := k2 (by assumption)
     rw [tp_word (by assumption)] at k3
     exact ⟨k1, k3.1, k3.2.1, fun j hj => (nonl_iff _).1 k3.2.2 j (by omega)⟩)
| (unfold okQ; rw [tp_new (by assumption) (by assumption)]; simp_all; done)
| (unfold okQ; rw [tp_is (by assumption) (by assumption) (by first | exact .inl (by assumption) | exact .inr (by assumption))]; simp_all; done)
| (unfold okQ; rw [tp_array (by assumption) (by assumption) (by assumption) (by assumption) (by assumption)]; simp_all; done)
| (unfold okQ; rw [tp_array (by assumption) (by assumption) (by assumption) (by assumption) (by assumption)]; simp_all; (try unfold deepN); simp_all; omega)
| (unfold okQ; rw [tp_else (by assumption) (by assumption) (by assumption) (by assumption) (by assumption)]; simp_all; done))), ?_⟩
                    exact ⟨Bk.au, Ch.au⟩
            · refine W_region ?_
              refine L_r (r_eqls rfl rfl) ?_
              refine L_r (r_ab rfl) ?_
              refine L_nil ?_
              refine W_if rfl (fun h82 => ?_) (fun h82 => ?_)
              · refine W_region ?_
                refine L_r (r_mb rfl) ?_
                refine L_r (r_mb rfl) ?_
                refine L_case (d := 86) rfl (fun h86 => ?_) (fun h86 => ?_)
                · refine L_g (r_fieldb Tryz.underlying47 rfl (show _ = some 1 from rfl) rfl rfl (show _ = 2 from rfl)) ?_
                  refine L_g (r_lb rfl rfl) ?_
                  refine L_call (.yes 1 true rfl rfl) rfl rfl (r_call Tryz.func50 rfl rfl rfl (by rfl)) (rright_walk x.s _ hs) ?_
                  rintro v89 w14 ⟨rfl, c14⟩
                  have hz14 := c14.size
                  refine L_r (r_pt rfl rfl) ?_
                  refine L_r (r_mb rfl) ?_
                  refine L_caseb (d := 91) rfl (fun h91 => ?_) (fun h91 => ?_)
                  · refine L_g (r_fieldb Tryz.underlying47 rfl (show _ = some 1 from rfl) rfl rfl (show _ = 2 from rfl)) ?_
                    refine L_g (r_lb rfl rfl) ?_
                    refine L_call (.yes 6 true rfl rfl) rfl rfl (r_call Tryz.func51 rfl rfl rfl (by rfl)) (rplain_walk x.s _) ?_
                    rintro v94 w15 ⟨rfl, rfl⟩
                    refine L_g (r_not rfl) ?_
                    refine L_r (r_pt rfl rfl) ?_
                    refine L_r (r_ab rfl) ?_
                    refine L_nil ?_
                    refine ⟨trivial, (dec_b (by clear hck htk; first
| (unfold okQ; simp_all; done)
| (have e : x.s.size = i := by omega
   refine hbb.trans ⟨fun ⟨k1, k2, k3, k4⟩ => ⟨k1, fun _ => ?_⟩, fun ⟨k1, k2⟩ => ?_⟩
   · rw [tp_word (by assumption)]; exact ⟨k2, k3, (nonl_iff _).2 fun j hj => k4 j (by omega)⟩
   · have k3 := k2 (by assumption)
     rw [tp_word (by assumption)] at k3
     exact ⟨k1, k3.1, k3.2.1, fun j hj => (nonl_iff _).1 k3.2.2 j (by omega)⟩)
| (unfold okQ; rw [tp_new (by assumption) (by assumption)]; simp_all; done)
| (unfold okQ; rw [tp_is (by assumption) (by assumption) (by first | exact .inl (by assumption) | exact .inr (by assumption))]; simp_all; done)
| (unfold okQ; rw [tp_array (by assumption) (by assumption) (by assumption) (by assumption) (by assumption)]; simp_all; done)
| (unfold okQ; rw [tp_array (by assumption) (by assumption) (by assumption) (by assumption) (by assumption)]; simp_all; (try unfold deepN); simp_all; omega)
| (unfold okQ; rw [tp_else (by assumption) (by assumption) (by assumption) (by assumption) (by assumption)]; simp_all; done))), ?_⟩
                    exact ⟨Bk.au, Ch.au⟩
                  · refine L_ps ?_
                    refine L_ps ?_
                    refine L_ps ?_
                    refine L_ps ?_
                    refine L_r (r_pf rfl rfl) ?_
                    refine L_r (r_ab rfl) ?_
                    refine L_nil ?_
                    refine ⟨trivial, (dec_f (by clear hck htk; first
| (unfold okQ; simp_all; done)
| (have e : x.s.size = i := by omega
   refine hbb.trans ⟨fun ⟨k1, k2, k3, k4⟩ => ⟨k1, fun _ => ?_⟩, fun ⟨k1, k2⟩ => ?_⟩
   · rw [tp_word (by assumption)]; exact ⟨k2, k3, (nonl_iff _).2 fun j hj => k4 j (by omega)⟩
   · have k3 := k2 (by assumption)
     rw [tp_word (by assumption)] at k3
     exact ⟨k1, k3.1, k3.2.1, fun j hj => (nonl_iff _).1 k3.2.2 j (by omega)⟩)
| (unfold okQ; rw [tp_new (by assumption) (by assumption)]; simp_all; done)
| (unfold okQ; rw [tp_is (by assumption) (by assumption) (by first | exact .inl (by assumption) | exact .inr (by assumption))]; simp_all; done)
| (unfold okQ; rw [tp_array (by assumption) (by assumption) (by assumption) (by assumption) (by assumption)]; simp_all; done)
| (unfold okQ; rw [tp_array (by assumption) (by assumption) (by assumption) (by assumption) (by assumption)]; simp_all; (try unfold deepN); simp_all; omega)
| (unfold okQ; rw [tp_else (by assumption) (by assumption) (by assumption) (by assumption) (by assumption)]; simp_all; done))), ?_⟩
                    exact ⟨Bk.au, Ch.au⟩
                · refine L_ps ?_
                  refine L_ps ?_
                  refine L_ps ?_
                  refine L_r (r_pf rfl rfl) ?_
                  refine L_r (r_mb rfl) ?_
                  refine L_ps ?_
                  refine L_ps ?_
                  refine L_ps ?_
                  refine L_ps ?_
                  refine L_r (r_pf rfl rfl) ?_
                  refine L_r (r_ab rfl) ?_
                  refine L_nil ?_
                  refine ⟨trivial, (dec_f (by clear hck htk; first
| (unfold okQ; simp_all; done)
| (have e : x.s.size = i := by omega
   refine hbb.trans ⟨fun ⟨k1, k2, k3, k4⟩ => ⟨k1, fun _ => ?_⟩, fun ⟨k1, k2⟩ => ?_⟩
   · rw [tp_word (by assumption)]; exact ⟨k2, k3, (nonl_iff _).2 fun j hj => k4 j (by omega)⟩
   · have k3 := k2 (by assumption)
     rw [tp_word (by assumption)] at k3
     exact ⟨k1, k3.1, k3.2.1, fun j hj => (nonl_iff _).1 k3.2.2 j (by omega)⟩)
| (unfold okQ; rw [tp_new (by assumption) (by assumption)]; simp_all; done)
| (unfold okQ; rw [tp_is (by assumption) (by assumption) (by first | exact .inl (by assumption) | exact .inr (by assumption))]; simp_all; done)
| (unfold okQ; rw [tp_array (by assumption) (by assumption) (by assumption) (by assumption) (by assumption)]; simp_all; done)
| (unfold okQ; rw [tp_array (by assumption) (by assumption) (by assumption) (by assumption) (by assumption)]; simp_all; (try unfold deepN); simp_all; omega)
| (unfold okQ; rw [tp_else (by assumption) (by assumption) (by assumption) (by assumption) (by assumption)]; simp_all; done))), ?_⟩
                  exact ⟨Bk.au, Ch.au⟩
              · refine W_seq ?_
                refine W_region ?_
                refine L_r (r_eqls rfl rfl) ?_
                refine L_r (r_ab rfl) ?_
                refine L_nil ?_
                refine W_if rfl (fun h97 => ?_) (fun h97 => ?_)
                · refine W_region ?_
                  refine L_r (r_mb rfl) ?_
                  refine L_r (r_mb rfl) ?_
                  refine L_case (d := 100) rfl (fun h100 => ?_) (fun h100 => ?_)
                  · refine L_g (r_fieldb Tryz.underlying47 rfl (show _ = some 1 from rfl) rfl rfl (show _ = 2 from rfl)) ?_
                    refine L_g (r_lb rfl rfl) ?_
                    refine L_call (.yes 1 true rfl rfl) rfl rfl (r_call Tryz.func50 rfl rfl rfl (by rfl)) (rright_walk x.s _ hs) ?_
                    rintro v103 w16 ⟨rfl, c16⟩
                    have hz16 := c16.size
                    refine L_r (r_pt rfl rfl) ?_
                    refine L_r (r_mb rfl) ?_
                    refine L_caseb (d := 105) rfl (fun h105 => ?_) (fun h105 => ?_)
                    · refine L_g (r_fieldb Tryz.underlying47 rfl (show _ = some 1 from rfl) rfl rfl (show _ = 2 from rfl)) ?_
                      refine L_g (r_lb rfl rfl) ?_
                      refine L_call (.yes 6 true rfl rfl) rfl rfl (r_call Tryz.func52 rfl rfl rfl (by rfl)) (rdeep_walk x.s _ hs) ?_
                      rintro v108 w17 ⟨rfl, c17⟩
                      have hz17 := c17.size
                      refine L_g (r_lss rfl rfl) ?_
                      refine L_r (r_pt rfl rfl) ?_
                      refine L_r (r_ab rfl) ?_
                      refine L_nil ?_
                      refine ⟨trivial, (dec_i (by clear hck htk; first
| (unfold okQ; simp_all; done)
| (have e : x.s.size = i := by omega
   refine hbb.trans ⟨fun ⟨k1, k2, k3, k4⟩ => ⟨k1, fun _ => ?_⟩, fun ⟨k1, k2⟩ => ?_⟩
   · rw [tp_word (by assumption)]; exact ⟨k2, k3, (nonl_iff _).2 fun j hj => k4 j (by omega)⟩
   · have k3 := k2 (by assumption)
     rw [tp_word (by assumption)] at k3
     exact ⟨k1, k3.1, k3.2.1, fun j hj => (nonl_iff _).1 k3.2.2 j (by omega)⟩)
| (unfold okQ; rw [tp_new (by assumption) (by assumption)]; simp_all; done)
| (unfold okQ; rw [tp_is (by assumption) (by assumption) (by first | exact .inl (by assumption) | exact .inr (by assumption))]; simp_all; done)
| (unfold okQ; rw [tp_array (by assumption) (by assumption) (by assumption) (by assumption) (by assumption)]; simp_all; done)
| (unfold okQ; rw [tp_array (by assumption) (by assumption) (by assumption) (by assumption) (by assumption)]; simp_all; (try unfold deepN); simp_all; omega)
| (unfold okQ; rw [tp_else (by assumption) (by assumption) (by assumption) (by assumption) (by assumption)]; simp_all; done))), ?_⟩
                      exact ⟨Bk.au, Ch.au⟩
                    · refine L_ps ?_
                      refine L_ps ?_
                      refine L_ps ?_
                      refine L_ps ?_
                      refine L_r (r_pf rfl rfl) ?_
                      refine L_r (r_ab rfl) ?_
                      refine L_nil ?_
                      refine ⟨trivial, (dec_f (by clear hck htk; first
| (unfold okQ; simp_all; done)
| (have e : x.s.size = i := by omega
   refine hbb.trans ⟨fun ⟨k1, k2, k3, k4⟩ => ⟨k1, fun _ => ?_⟩, fun ⟨k1, k2⟩ => ?_⟩
   · rw [tp_word (by assumption)]; exact ⟨k2, k3, (nonl_iff _).2 fun j hj => k4 j (by omega)⟩
   · have k3 := k2 (by assumption)
     rw [tp_word (by assumption)] at k3
     exact ⟨k1, k3.1, k3.2.1, fun j hj => (nonl_iff _).1 k3.2.2 j (by omega)⟩)
| (unfold okQ; rw [tp_new (by assumption) (by assumption)]; simp_all; done)
| (unfold okQ; rw [tp_is (by assumption) (by assumption) (by first | exact .inl (by assumption) | exact .inr (by assumption))]; simp_all; done)
| (unfold okQ; rw [tp_array (by assumption) (by assumption) (by assumption) (by assumption) (by assumption)]; simp_all; done)
| (unfold okQ; rw [tp_array (by assumption) (by assumption) (by assumption) (by assumption) (by assumption)]; simp_all; (try unfold deepN); simp_all; omega)
| (unfold okQ; rw [tp_else (by assumption) (by assumption) (by assumption) (by assumption) (by assumption)]; simp_all; done))), ?_⟩
                      exact ⟨Bk.au, Ch.au⟩
                  · refine L_ps ?_
                    refine L_ps ?_
                    refine L_ps ?_
                    refine L_r (r_pf rfl rfl) ?_
                    refine L_r (r_mb rfl) ?_
                    refine L_ps ?_
                    refine L_ps ?_
                    refine L_ps ?_
                    refine L_ps ?_
                    refine L_r (r_pf rfl rfl) ?_
                    refine L_r (r_ab rfl) ?_
                    refine L_nil ?_
                    refine ⟨trivial, (dec_f (by clear hck htk; first
| (unfold okQ; simp_all; done)
| (have e : x.s.size = i := by omega
   refine hbb.trans ⟨fun ⟨k1, k2, k3, k4⟩ => ⟨k1, fun _ => ?_⟩, fun ⟨k1, k2⟩ => ?_⟩
   · rw [tp_word (by assumption)]; exact ⟨k2, k3, (nonl_iff _).2 fun j hj => k4 j (by omega)⟩
   · have k3 := k2 (by assumption)
     rw [tp_word (by assumption)] at k3
     exact ⟨k1, k3.1, k3.2.1, fun j hj => (nonl_iff _).1 k3.2.2 j (by omega)⟩)
| (unfold okQ; rw [tp_new (by assumption) (by assumption)]; simp_all; done)
| (unfold okQ; rw [tp_is (by assumption) (by assumption) (by first | exact .inl (by assumption) | exact .inr (by assumption))]; simp_all; done)
| (unfold okQ; rw [tp_array (by assumption) (by assumption) (by assumption) (by assumption) (by assumption)]; simp_all; done)
| (unfold okQ; rw [tp_array (by assumption) (by assumption) (by assumption) (by assumption) (by assumption)]; simp_all; (try unfold deepN); simp_all; omega)
| (unfold okQ; rw [tp_else (by assumption) (by assumption) (by assumption) (by assumption) (by assumption)]; simp_all; done))), ?_⟩
                    exact ⟨Bk.au, Ch.au⟩
                · refine W_seq ?_
                  refine W_region ?_
                  refine L_r (r_fieldb Tryz.underlying47 rfl (show _ = some 1 from rfl) rfl rfl (show _ = 2 from rfl)) ?_
                  refine L_r (r_lb rfl rfl) ?_
                  refine L_call (.plain rfl) rfl rfl (r_call Tryz.func53 rfl rfl rfl (by rfl)) (rparts_walk x.s _ hs) ?_
                  rintro v37 w18 ⟨⟨px, py, rfl, _⟩, c18⟩
                  have hz18 := c18.size
                  refine L_r (r_mv) ?_
                  refine L_r (r_ext3_0 rfl) ?_
                  refine L_r (r_ext3_1 rfl) ?_
                  refine L_r (r_ext3_2 rfl) ?_
                  refine L_r (r_as rfl) ?_
                  refine L_r (r_as rfl) ?_
                  refine L_r (r_ab rfl) ?_
                  refine L_nil ?_
                  refine W_region ?_
                  refine L_r (r_mb rfl) ?_
                  refine L_r (r_mb rfl) ?_
                  refine L_case (d := 42) rfl (fun h42 => ?_) (fun h42 => ?_)
                  · refine L_g (r_mb rfl) ?_
                    refine L_r (r_pt rfl rfl) ?_
                    refine L_r (r_ab rfl) ?_
                    refine L_nil ?_
                    refine ⟨trivial, (dec_b (by clear hck htk; first
| (unfold okQ; simp_all; done)
| (have e : x.s.size = i := by omega
   refine hbb.trans ⟨fun ⟨k1, k2, k3, k4⟩ => ⟨k1, fun _ => ?_⟩, fun ⟨k1, k2⟩ => ?_⟩
   · rw [tp_word (by assumption)]; exact ⟨k2, k3, (nonl_iff _).2 fun j hj => k4 j (by omega)⟩
   · have k3 := k2 (by assumption)
     rw [tp_word (by assumption)] at k3
     exact ⟨k1, k3.1, k3.2.1, fun j hj => (nonl_iff _).1 k3.2.2 j (by omega)⟩)
| (unfold okQ; rw [tp_new (by assumption) (by assumption)]; simp_all; done)
| (unfold okQ; rw [tp_is (by assumption) (by assumption) (by first | exact .inl (by assumption) | exact .inr (by assumption))]; simp_all; done)
| (unfold okQ; rw [tp_array (by assumption) (by assumption) (by assumption) (by assumption) (by assumption)]; simp_all; done)
| (unfold okQ; rw [tp_array (by assumption) (by assumption) (by assumption) (by assumption) (by assumption)]; simp_all; (try unfold deepN); simp_all; omega)
| (unfold okQ; rw [tp_else (by assumption) (by assumption) (by assumption) (by assumption) (by assumption)]; simp_all; done))), ?_⟩
                    exact ⟨Bk.au, Ch.au⟩
                  · refine L_ps ?_
                    refine L_r (r_pf rfl rfl) ?_
                    refine L_r (r_ab rfl) ?_
                    refine L_nil ?_
                    refine ⟨trivial, (dec_f (by clear hck htk; first
| (unfold okQ; simp_all; done)
| (have e : x.s.size = i := by omega
   refine hbb.trans ⟨fun ⟨k1, k2, k3, k4⟩ => ⟨k1, fun _ => ?_⟩, fun ⟨k1, k2⟩ => ?_⟩
   · rw [tp_word (by assumption)]; exact ⟨k2, k3, (nonl_iff _).2 fun j hj => k4 j (by omega)⟩
   · have k3 := k2 (by assumption)
     rw [tp_word (by assumption)] at k3
     exact ⟨k1, k3.1, k3.2.1, fun j hj => (nonl_iff _).1 k3.2.2 j (by omega)⟩)
| (unfold okQ; rw [tp_new (by assumption) (by assumption)]; simp_all; done)
| (unfold okQ; rw [tp_is (by assumption) (by assumption) (by first | exact .inl (by assumption) | exact .inr (by assumption))]; simp_all; done)
| (unfold okQ; rw [tp_array (by assumption) (by assumption) (by assumption) (by assumption) (by assumption)]; simp_all; done)
| (unfold okQ; rw [tp_array (by assumption) (by assumption) (by assumption) (by assumption) (by assumption)]; simp_all; (try unfold deepN); simp_all; omega)
| (unfold okQ; rw [tp_else (by assumption) (by assumption) (by assumption) (by assumption) (by assumption)]; simp_all; done))), ?_⟩
                    exact ⟨Bk.au, Ch.au⟩
      · refine W_skip ?_
        refine ⟨trivial, (dec_i (by clear hck htk; first
| (unfold okQ; simp_all; done)
| (have e : x.s.size = i := by omega
   refine hbb.trans ⟨fun ⟨k1, k2, k3, k4⟩ => ⟨k1, fun _ => ?_⟩, fun ⟨k1, k2⟩ => ?_⟩
   · rw [tp_word (by assumption)]; exact ⟨k2, k3, (nonl_iff _).2 fun j hj => k4 j (by omega)⟩
   · have k3 := k2 (by assumption)
     rw [tp_word (by assumption)] at k3
     exact ⟨k1, k3.1, k3.2.1, fun j hj => (nonl_iff _).1 k3.2.2 j (by omega)⟩)
| (unfold okQ; rw [tp_new (by assumption) (by assumption)]; simp_all; done)
| (unfold okQ; rw [tp_is (by assumption) (by assumption) (by first | exact .inl (by assumption) | exact .inr (by assumption))]; simp_all; done)
| (unfold okQ; rw [tp_array (by assumption) (by assumption) (by assumption) (by assumption) (by assumption)]; simp_all; done)
| (unfold okQ; rw [tp_array (by assumption) (by assumption) (by assumption) (by assumption) (by assumption)]; simp_all; (try unfold deepN); simp_all; omega)
| (unfold okQ; rw [tp_else (by assumption) (by assumption) (by assumption) (by assumption) (by assumption)]; simp_all; done))), ?_⟩
        exact ⟨Bk.au, Ch.au⟩
    rintro gct31 w19 ⟨hf4, hCt31⟩
    refine W_as 4 hf4 rfl ?_
    clear hf4
    obtain ⟨hb31, hnw⟩ := hCt31
    have hz31 := hnw.size
    refine W_seq ?_
    refine W_seq ?_
    refine W_region ?_
    refine L_r (r_mb rfl) ?_
    refine L_r (r_notp rfl) ?_
    refine L_nil ?_
    refine W_if rfl (fun h112 => ?_) (fun h112 => ?_)
    · refine W_seq ?_
      refine W_region ?_
      refine L_r (r_ai rfl) ?_
      refine L_nil ?_
      refine W_ret ?_
      refine ret1 (v := .int _ _) rfl rfl ?_
      refine ⟨?_, Ch.au⟩
      rw [hck]
      first
      | (rw [if_pos (by assumption)]; done)
      | (rw [if_neg (by assumption), if_pos (by assumption)]; done)
      | (rw [if_neg (by assumption), if_neg (by assumption)]; done)
      | (rw [if_neg (by assumption), if_pos (Classical.not_not.1 (by assumption))]; done)
    · refine W_skip ?_
      refine W_seq ?_
      refine W_region ?_
      refine L_r (r_ai rfl) ?_
      refine L_nil ?_
      refine W_ret ?_
      refine ret1 (v := .int _ _) rfl rfl ?_
      refine ⟨?_, Ch.au⟩
      rw [hck]
      first
      | (rw [if_pos (by assumption)]; done)
      | (rw [if_neg (by assumption), if_pos (by assumption)]; done)
      | (rw [if_neg (by assumption), if_neg (by assumption)]; done)
      | (rw [if_neg (by assumption), if_pos (Classical.not_not.1 (by assumption))]; done)
theorem rall04_walk (v : Value) (z : List Ins) (w0 : World) (hv : Sl w0 v 3 z.length (cellsI z)) (hl : z.length ≤ 1000000) (hs : ∀ x ∈ z, x.s.size ≤ 1000000) : Does Tryz.prog 7 #[v] w0 (fun r w' => r = .int .i64 (allI z) ∧ Nw w0 w') := by
  refine fn_of (n := 19) (args := [v]) Tryz.func7 rfl rfl rfl ?_
  refine W_seq ?_
  refine W_region ?_
  refine L_r (r_ai rfl) ?_
  refine L_nil ?_
  refine W_seq ?_
  refine W_seq ?_
  refine W_region ?_
  refine L_r (r_ai rfl) ?_
  refine L_nil ?_
  refine W_block ?_
  refine W_loopF [0] (fun mz_ f W => ∃ (i : Nat), f 3 = .int .i64 i ∧ (i ≤ z.length ∧ allI z = allI (z.drop i) ∧ Nw w0 W) ∧ mz_ = z.length - i) ?_ ?_
  · refine ⟨_, 0, rfl, ?_, rfl⟩
    exact ⟨by omega, rfl, Ch.au⟩
  rintro m0 g0 w1 ⟨i, hf3, hR0, rfl⟩
  refine W_as 3 hf3 rfl ?_
  clear hf3
  obtain ⟨hi, ha, hnw⟩ := hR0
  have hz := hnw.size
  refine W_seq ?_
  refine W_seq ?_
  refine W_region ?_
  refine L_r (r_mi rfl) ?_
  refine L_r (r_mv) ?_
  refine L_r (r_lenSl Tryz.underlying22 (by conv => lhs; whnf) Sl.au) ?_
  refine L_r (r_lss rfl rfl) ?_
  refine L_nil ?_
  refine W_if rfl (fun h8 => ?_) (fun h8 => ?_)
  · have hil : i < z.length := by omega
    have hrow := cellsI_row z i hil
    have hsx := hs z[i] (List.getElem_mem _)
    obtain ⟨x, hx⟩ : ∃ x, x = z[i] := ⟨_, rfl⟩
    rw [← hx] at hrow hsx
    refine W_skip ?_
    refine W_seq ?_
    refine W_block ?_
    refine W_seq ?_
    refine W_region ?_
    refine L_r (r_mv) ?_
    refine L_r (r_mi rfl) ?_
    refine L_r (r_ix Tryz.underlying22 (show _ = some 3 from rfl) (by conv => lhs; whnf) rfl Sl.au) ?_
    refine L_r (r_loadSlrow (us := [.string x.op, .int .i64 x.n, .string x.s]) Tryz.underlying47 rfl rfl rfl rfl Sl.au (by exact hrow)) ?_
    refine L_call (.plain rfl) rfl rfl (r_call Tryz.func20 rfl rfl rfl (by rfl)) (rcheck04_walk x _ hsx) ?_
    rintro v15 w2 ⟨rfl, c2⟩
    have hz2 := c2.size
    refine L_r (r_ai rfl) ?_
    refine L_nil ?_
    refine W_seq ?_
    refine W_region ?_
    refine L_r (r_mi rfl) ?_
    refine L_r (r_neq rfl rfl) ?_
    refine L_nil ?_
    refine W_if rfl (fun h17 => ?_) (fun h17 => ?_)
    · refine W_seq ?_
      refine W_region ?_
      refine L_r (r_mi rfl) ?_
      refine L_r (r_ai rfl) ?_
      refine L_nil ?_
      refine W_ret ?_
      refine ret1 (v := .int _ _) rfl rfl ?_
      refine ⟨?_, Ch.au⟩
      first
      | (have hd := allI_drop z i hil
         rw [← hx, if_pos h17] at hd
         rw [ha, hd])
      | (rw [ha, List.drop_eq_nil_of_le (by omega)]; rfl)
    · refine W_skip ?_
      refine W_region ?_
      refine L_r (r_mi rfl) ?_
      refine L_r (r_add rfl rfl (by first | exact wr_i64 (by omega) | rfl)) ?_
      refine L_r (r_ai rfl) ?_
      refine L_nil ?_
      refine ⟨⟨fx2, trivial⟩, _, ?_, i + 1, rfl, ?_, rfl⟩
      · omega
      have hd := allI_drop z i hil
      rw [← hx, if_neg (by simpa using h17)] at hd
      exact ⟨by omega, ha.trans hd, Ch.au⟩
  · refine W_exit ?_
    repeat (first | refine blk_hit ?_ | refine blk_miss rfl ?_)
    refine W_seq ?_
    refine W_region ?_
    refine L_r (r_ai rfl) ?_
    refine L_nil ?_
    refine W_ret ?_
    refine ret1 (v := .int _ _) rfl rfl ?_
    refine ⟨?_, Ch.au⟩
    first
    | (have hd := allI_drop z i hil
       rw [← hx, if_pos h17] at hd
       rw [ha, hd])
    | (rw [ha, List.drop_eq_nil_of_le (by omega)]; rfl)
theorem eqIns (n n' : Int) (o s o' s' : ByteArray) (W : World) :
    (Op.equal 47 (.agg #[.string o, .int .i64 n, .string s]) (.agg #[.string o', .int .i64 n', .string s'])).run Tryz.prog W = .ok (decide (o = o' ∧ n = n' ∧ s = s')) W := by
  rw [eq_struct Tryz.underlying47 (by kernel_rfl)]
  refine (eqF_cons (by decide) (by kernel_rfl) rfl rfl (eqI_string Tryz.underlying9) (eqF_cons (by decide) (by kernel_rfl) rfl rfl (eqI_int Tryz.underlying2) (eqF_cons (by decide) (by kernel_rfl) rfl rfl (eqI_string Tryz.underlying9) eqF_nil))).trans ?_
  congr 1
  by_cases h : o = o' ∧ n = n' ∧ s = s'
  · rw [decide_eq_true h, decide_eq_true (by simpa using h)]
  · rw [decide_eq_false h, decide_eq_false (by simpa using h)]
theorem ins_eq {x y : Ins} (h : x.op = y.op ∧ x.n = y.n ∧ x.s = y.s) : x = y := by
  obtain ⟨a, b, c⟩ := x
  obtain ⟨a', b', c'⟩ := y
  simp only at h
  obtain ⟨rfl, rfl, rfl⟩ := h
  rfl
theorem rsame04_walk (v : Value) (z : List Ins) (u : Value) (y : List Ins) (w0 : World) (hv : Sl w0 v 3 z.length (cellsI z)) (hu : Sl w0 u 3 y.length (cellsI y)) (hl : z.length ≤ 1000000) : Does Tryz.prog 15 #[v, u] w0 (fun r w' => ∃ b, r = .bool b ∧ (b = true ↔ z = y) ∧ Nw w0 w') := by
  refine fn_of (n := 26) (args := [v, u]) Tryz.func15 rfl rfl rfl ?_
  refine W_seq ?_
  refine W_region ?_
  refine L_r (r_ab rfl) ?_
  refine L_nil ?_
  refine W_seq ?_
  refine W_seq ?_
  refine W_region ?_
  refine L_r (r_mv) ?_
  refine L_r (r_lenSl Tryz.underlying22 (by conv => lhs; whnf) Sl.au) ?_
  refine L_r (r_mv) ?_
  refine L_r (r_lenSl Tryz.underlying22 (by conv => lhs; whnf) Sl.au) ?_
  refine L_r (r_neq rfl rfl) ?_
  refine L_nil ?_
  refine W_if rfl (fun h10 => ?_) (fun h10 => ?_)
  · refine W_seq ?_
    refine W_region ?_
    refine L_r (r_ab rfl) ?_
    refine L_nil ?_
    refine W_ret ?_
    refine ret1 (v := .bool _) rfl rfl ?_
    first
    | exact ⟨_, rfl, ⟨fun h => (by cases h), fun h => (by rw [h] at h10; exact absurd rfl h10)⟩, Ch.au⟩
    | exact ⟨_, rfl, ⟨fun h => (by cases h), fun h => (by exfalso; apply h25; subst h; rw [hx, hx']; exact ⟨rfl, rfl, rfl⟩)⟩, Ch.au⟩
    | exact ⟨_, rfl, ⟨fun _ => List.ext_getElem hle fun j h1 h2 => ha j h1 h2 (by omega), fun _ => rfl⟩, Ch.au⟩
  · refine W_skip ?_
    refine W_seq ?_
    refine W_seq ?_
    refine W_region ?_
    refine L_r (r_ai rfl) ?_
    refine L_nil ?_
    refine W_block ?_
    refine W_loopF [0, 1] (fun mz_ f W => ∃ (i : Nat), f 5 = .int .i64 i ∧ (i ≤ z.length ∧ z.length = y.length ∧ (∀ j (h1 : j < z.length) (h2 : j < y.length), j < i → z[j] = y[j]) ∧ Nw w0 W) ∧ mz_ = z.length - i) ?_ ?_
    · refine ⟨_, 0, rfl, ?_, rfl⟩
      exact ⟨by omega, by omega, fun j h1 h2 hj => absurd hj (by omega), Ch.au⟩
    rintro m0 g0 w1 ⟨i, hf5, hR0, rfl⟩
    refine W_as 5 hf5 rfl ?_
    clear hf5
    obtain ⟨hi, hle, ha, hnw⟩ := hR0
    have hz := hnw.size
    refine W_seq ?_
    refine W_seq ?_
    refine W_region ?_
    refine L_r (r_mi rfl) ?_
    refine L_r (r_mv) ?_
    refine L_r (r_lenSl Tryz.underlying22 (by conv => lhs; whnf) Sl.au) ?_
    refine L_r (r_lss rfl rfl) ?_
    refine L_nil ?_
    refine W_if rfl (fun h14 => ?_) (fun h14 => ?_)
    · have hil : i < z.length := by omega
      have hil' : i < y.length := by omega
      have hrow := cellsI_row z i hil
      have hrow' := cellsI_row y i hil'
      obtain ⟨x, hx⟩ : ∃ x, x = z[i] := ⟨_, rfl⟩
      obtain ⟨x', hx'⟩ : ∃ x, x = y[i] := ⟨_, rfl⟩
      rw [← hx] at hrow
      rw [← hx'] at hrow'
      refine W_skip ?_
      refine W_seq ?_
      refine W_block ?_
      refine W_seq ?_
      refine W_draw (fun W => Sl W v 3 z.length (cellsI z) ∧ Sl W u 3 y.length (cellsI y)) 9 (m := 9) (by kernel_rfl) rfl (fun w2 c2 hs2 => ?_)
      refine held (by exact ⟨Sl.au, Sl.au⟩) (fun hS => ?_)
      refine D_t 0 rfl (fun W hW => r_mv) ?_
      refine D_t 1 rfl (fun W hW => r_mi rfl) ?_
      refine D_t 2 rfl (fun W hW => r_ix Tryz.underlying22 (show _ = some 3 from rfl) (by conv => lhs; whnf) rfl gw) ?_
      refine D_t 3 rfl (fun W hW => r_loadSlrow (us := [.string x.op, .int .i64 x.n, .string x.s]) Tryz.underlying47 rfl rfl rfl rfl gw (by exact hrow)) ?_
      refine D_t 4 rfl (fun W hW => r_mv) ?_
      refine D_t 5 rfl (fun W hW => r_mi rfl) ?_
      refine D_t 6 rfl (fun W hW => r_ix Tryz.underlying22 (show _ = some 3 from rfl) (by conv => lhs; whnf) rfl gw) ?_
      refine D_t 7 rfl (fun W hW => r_loadSlrow (us := [.string x'.op, .int .i64 x'.n, .string x'.s]) Tryz.underlying47 rfl rfl rfl rfl gw (by exact hrow')) ?_
      refine D_t 8 rfl (fun W hW => r_neqR (xs := #[.string _, .int _ _, .string _]) (ys := #[.string _, .int _ _, .string _]) rfl rfl (by kernel_rfl) (eqIns _ _ _ _ _ _ _)) ?_
      refine D_done (by kernel_rfl) ?_
      refine W_if rfl (fun h25 => ?_) (fun h25 => ?_)
      · refine W_seq ?_
        refine W_region ?_
        refine L_r (r_ab rfl) ?_
        refine L_nil ?_
        refine W_ret ?_
        refine ret1 (v := .bool _) rfl rfl ?_
        first
        | exact ⟨_, rfl, ⟨fun h => (by cases h), fun h => (by rw [h] at h10; exact absurd rfl h10)⟩, Ch.au⟩
        | exact ⟨_, rfl, ⟨fun h => (by cases h), fun h => (by exfalso; apply h25; subst h; rw [hx, hx']; exact ⟨rfl, rfl, rfl⟩)⟩, Ch.au⟩
        | exact ⟨_, rfl, ⟨fun _ => List.ext_getElem hle fun j h1 h2 => ha j h1 h2 (by omega), fun _ => rfl⟩, Ch.au⟩
      · refine W_skip ?_
        refine W_region ?_
        refine L_r (r_mi rfl) ?_
        refine L_r (r_add rfl rfl (by first | exact wr_i64 (by omega) | rfl)) ?_
        refine L_r (r_ai rfl) ?_
        refine L_nil ?_
        refine ⟨⟨fx2, fx2, trivial⟩, _, ?_, i + 1, rfl, ?_, rfl⟩
        · omega
        refine ⟨by omega, hle, fun j h1 h2 hj => ?_, Ch.au⟩
        rcases Nat.lt_or_ge j i with h | h
        · exact ha j h1 h2 h
        · have e : j = i := by omega
          subst e
          rw [← hx, ← hx']
          exact ins_eq (by simpa using h25)
    · refine W_exit ?_
      repeat (first | refine blk_hit ?_ | refine blk_miss rfl ?_)
      refine W_seq ?_
      refine W_region ?_
      refine L_r (r_ab rfl) ?_
      refine L_nil ?_
      refine W_ret ?_
      refine ret1 (v := .bool _) rfl rfl ?_
      first
      | exact ⟨_, rfl, ⟨fun h => (by cases h), fun h => (by rw [h] at h10; exact absurd rfl h10)⟩, Ch.au⟩
      | exact ⟨_, rfl, ⟨fun h => (by cases h), fun h => (by exfalso; apply h25; subst h; rw [hx, hx']; exact ⟨rfl, rfl, rfl⟩)⟩, Ch.au⟩
      | exact ⟨_, rfl, ⟨fun _ => List.ext_getElem hle fun j h1 h2 => ha j h1 h2 (by omega), fun _ => rfl⟩, Ch.au⟩
end Go.Proofs.YtioonbfinnigpaaGreatDoor

