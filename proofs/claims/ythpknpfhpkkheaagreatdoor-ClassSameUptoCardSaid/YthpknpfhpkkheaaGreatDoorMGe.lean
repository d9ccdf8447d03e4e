/- Parts of the proof (Ref04b, Ref01n, PackG, Code5, Code6, Ref04d, Code7, Code11, Ref04e, Txt04, Ref04f, ClsE, ClsF, ClsG, Clos, Ref04p). -/
import Derived.Test.YthpknpfhpkkheaaGreatDoorMGd
namespace Go.Proofs.YthpknpfhpkkheaaGreatDoor
open Go Go.RowKit
set_option linter.unusedVariables false
set_option linter.unusedSimpArgs false
set_option maxRecDepth 100000
theorem bs_at {s : ByteArray} {j : Nat} (h : j < s.size) : (bs s)[j]? = some (bat s j) := by
  have hl : j < (bs s).length := by rw [bs_length]; exact h
  unfold bat
  rw [List.getD_eq_getElem?_getD, List.getElem?_eq_getElem hl]; rfl
theorem nonl_iff (s : ByteArray) : noNl s ↔ ∀ j, j < s.size → (bat s j).toNat ≠ 10 := by
  unfold noNl Lib.contains
  rw [Lib.index_one]
  constructor
  ·
   intro h j hj hc
   have hI : ¬ 0 ≤ Lib.indexByte (bs s) 10 := of_decide_eq_false h
   have hge := Lib.indexByte_ge (bs s) 10
   have hm : Lib.indexByte (bs s) 10 = -1 := by omega
   have h2 := Lib.indexByte_none hm j
   rw [bs_at hj] at h2
   exact h2 (congrArg some (UInt8.toNat_inj.1 hc))
  ·
   intro h
   refine decide_eq_false fun hle => ?_
   obtain ⟨o, ho⟩ : ∃ o : Nat, Lib.indexByte (bs s) 10 = o := ⟨(Lib.indexByte (bs s) 10).toNat, by omega⟩
   obtain ⟨h1, h2⟩ := Lib.indexByte_some ho
   have ho1 : o < s.size := by rw [← bs_length]; exact (List.getElem?_eq_some_iff.1 h1).1
   rw [bs_at ho1] at h1
   injection h1 with h1
   exact h o ho1 (by rw [h1]; rfl)
theorem tk_oneB : ((List.range 42).all fun k => !((opT.getD k default).2.1 && (opT.getD k default).2.2)) = true := by decide +kernel
def okR (r : Int) (x : Ins) : Prop := (r = 1 ∨ x.n = 0) ∧ (r = 2 ∨ x.s = { data := #[] })
instance (r : Int) (x : Ins) : Decidable (okR r x) := inferInstanceAs (Decidable (_ ∧ _))
def okQ (r : Int) (x : Ins) : Prop := okR r x ∧ (r = 2 → textP x.op x.s)
instance (r : Int) (x : Ins) : Decidable (okQ r x) := inferInstanceAs (Decidable (_ ∧ _))
theorem check_r (x : Ins) : checkI x = if rtI (takesF x.op) < 0 then 40 else if okQ (rtI (takesF x.op)) x then 0 else 41 := by
  have h1 : ¬ ((takesF x.op).1 = true ∧ (takesF x.op).2.1 = true) := by
    unfold takesF
    cases hk : opIx x.op with
    | none => simp
    | some k =>
      have := List.all_eq_true.1 tk_oneB k (List.mem_range.2 (opIx_lt hk))
      rintro ⟨k1, k2⟩
      simp only at k1 k2
      rw [k1, k2] at this
      exact absurd this (by decide)
  unfold checkI
  generalize takesF x.op = t at h1 ⊢
  obtain ⟨ta, tb, tc⟩ := t
  unfold checkT okQ okR rtI
  cases tc <;> cases ta <;> cases tb <;> simp_all <;> split <;> simp_all <;> (intro a b; rename_i h; rcases h with h | h <;> contradiction)
def isC (s : ByteArray) : Prop := s = { data := #[105, 115] } ∨ s = { data := #[99, 97, 115, 116] }
instance (s : ByteArray) : Decidable (isC s) := inferInstanceAs (Decidable (_ ∨ _))
set_option maxHeartbeats 1000000 in
theorem rcheck04_walk (x : Ins) (w0 : World) (hs : x.s.size ≤ 1000000000000000) : Does Tryz.prog 167 #[x.v] w0 (fun r w' => r = .int .i64 (checkI x) ∧ Nw w0 w') := by
  have hck := check_r x
  have htk := rtakes_walk x.op
  generalize rtI (takesF x.op) = r at hck htk
  refine fn_of (n := 113) (args := [x.v]) Tryz.func167 rfl rfl rfl (W_seq (W_region ?_))
  refine L_new (.plain rfl) rfl rfl (r_boxa rfl) (fun w1 b1 hb1 eb1 hs1 c1 => (L_r (r_ai rfl) (L_nil (W_seq (W_region ?_)))))
  refine L_r (r_fieldb Tryz.underlying54 rfl (show _ = some 1 from rfl) rfl rfl (show _ = 0 from rfl)) (L_r (r_lb rfl rfl) ?_)
  refine L_call (.plain rfl) rfl rfl (r_call Tryz.func102 rfl rfl rfl (by rfl)) (htk _) ?_
  rintro v11 w2 ⟨rfl, c2⟩
  have hz2 := c2.size
  refine L_r (r_ai rfl) (L_nil (W_seq (W_seq (W_region (L_r (r_mi rfl) (L_r (r_lss rfl rfl) (L_nil ?_)))))))
  refine W_if rfl (fun h13 => ?_) (fun h13 => ?_)
  ·
   refine W_seq (W_region (L_r (r_ai rfl) (L_nil (W_ret ?_))))
   refine ret1 (v := .int _ _) rfl rfl ?_
   refine ⟨?_, Ch.au⟩
   rw [hck]
   first
   | (rw [if_pos (by assumption)]; done)
   | (rw [if_neg (by assumption), if_pos (by assumption)]; done)
   | (rw [if_neg (by assumption), if_neg (by assumption)]; done)
   | (rw [if_neg (by assumption), if_pos (Classical.not_not.1 (by assumption))]; done)
  ·
   refine W_skip ?_
   refine W_cutF [1, 3] (fun f W => f 4 = .bool (decide (okR r x)) ∧ (W = w2)) ?_ ?_
   ·
    refine W_region (L_r (r_mi rfl) (L_r (r_eql rfl rfl) (L_r (r_mb rfl) ?_)))
    refine L_case (d := 16) rfl (fun h16 => ?_) (fun h16 => ?_)
    ·
     refine L_ps (L_ps (L_ps (L_r (r_pt rfl rfl) (L_r (r_mb rfl) ?_))))
     refine L_g (r_mi rfl) ?_
     refine L_g (r_eql rfl rfl) ?_
     refine L_g (r_mb rfl) ?_
     refine L_case (d := 24) rfl (fun h24 => ?_) (fun h24 => ?_)
     ·
      refine L_ps (L_ps (L_ps ?_))
      refine L_g (r_pt rfl rfl) (L_r (r_pt rfl rfl) (L_r (r_ab rfl) (L_nil ?_)))
      refine ⟨⟨fx2, fx2, trivial⟩, (dec_t (by unfold okR; simp_all)), ?_⟩
      rfl
     ·
      refine L_g (r_fieldb Tryz.underlying54 rfl (show _ = some 1 from rfl) rfl rfl (show _ = 2 from rfl)) ?_
      refine L_g (r_lb rfl rfl) ?_
      refine L_g (r_eqls rfl rfl) ?_
      refine L_g (r_pf rfl rfl) (L_r (r_pt rfl rfl) (L_r (r_ab rfl) (L_nil ?_)))
      refine ⟨⟨fx2, fx2, trivial⟩, (dec_i (by unfold okR; simp_all)), ?_⟩
      rfl
    ·
     refine L_g (r_fieldb Tryz.underlying54 rfl (show _ = some 1 from rfl) rfl rfl (show _ = 1 from rfl)) ?_
     refine L_g (r_lb rfl rfl) ?_
     refine L_g (r_eql rfl rfl) (L_r (r_pf rfl rfl) (L_r (r_mb rfl) ?_))
     refine L_case (d := 21) rfl (fun h21 => ?_) (fun h21 => ?_)
     ·
      refine L_g (r_mi rfl) ?_
      refine L_g (r_eql rfl rfl) ?_
      refine L_g (r_mb rfl) ?_
      refine L_case (d := 24) rfl (fun h24 => ?_) (fun h24 => ?_)
      ·
       refine L_ps (L_ps (L_ps ?_))
       refine L_g (r_pt rfl rfl) (L_r (r_pt rfl rfl) (L_r (r_ab rfl) (L_nil ?_)))
       refine ⟨⟨fx2, fx2, trivial⟩, (dec_t (by unfold okR; simp_all)), ?_⟩
       rfl
      ·
       refine L_g (r_fieldb Tryz.underlying54 rfl (show _ = some 1 from rfl) rfl rfl (show _ = 2 from rfl)) ?_
       refine L_g (r_lb rfl rfl) ?_
       refine L_g (r_eqls rfl rfl) ?_
       refine L_g (r_pf rfl rfl) (L_r (r_pt rfl rfl) (L_r (r_ab rfl) (L_nil ?_)))
       refine ⟨⟨fx2, fx2, trivial⟩, (dec_i (by unfold okR; simp_all)), ?_⟩
       rfl
     ·
      refine L_ps (L_ps (L_ps ?_))
      refine L_pu ?_
      refine L_pu ?_
      refine L_pu (L_ps (L_r (r_pf rfl rfl) (L_r (r_ab rfl) (L_nil ?_))))
      refine ⟨⟨fx2, fx2, trivial⟩, (dec_f (by unfold okR; simp_all)), ?_⟩
      rfl
   rintro gcr4 w3 ⟨hf4, hCr4⟩
   refine W_as 4 hf4 rfl ?_
   clear hf4
   subst hCr4
   refine W_seq (W_seq (W_region (L_r (r_mi rfl) (L_r (r_eql rfl rfl) (L_nil ?_)))))
   refine W_endF [] (fun f W => f 4 = .bool (decide (okQ r x)) ∧ (Bk W b1 #[.string x.op, .int .i64 x.n, .string x.s] 54 ∧ Nw w0 W)) ?_ ?_
   ·
    refine W_if rfl (fun h31 => ?_) (fun h31 => ?_)
    ·
     refine W_seq (W_region ?_)
     refine L_r (r_fieldb Tryz.underlying54 rfl (show _ = some 1 from rfl) rfl rfl (show _ = 0 from rfl)) (L_r (r_lb rfl rfl) (L_nil (W_block (W_seq (W_region (L_r (r_eqls rfl rfl) (L_r (r_ab rfl) (L_nil ?_))))))))
     refine W_if rfl (fun h45 => ?_) (fun h45 => ?_)
     ·
      refine W_cutF [1] (fun f W => f 4 = .bool (decide (okR r x ∧ (x.s.size : Int) ≤ 64 ∧ Lib.validD (bs x.s) = true)) ∧ (Bk W b1 #[.string x.op, .int .i64 x.n, .string x.s] 54 ∧ Nw w0 W)) ?_ ?_
      ·
       refine W_region (L_r (r_mb rfl) (L_r (r_mb rfl) ?_))
       refine L_case (d := 48) rfl (fun h48 => ?_) (fun h48 => ?_)
       ·
        refine L_g (r_fieldb Tryz.underlying54 rfl (show _ = some 1 from rfl) rfl rfl (show _ = 2 from rfl)) ?_
        refine L_g (r_lb rfl rfl) ?_
        refine L_g (r_lens Tryz.underlying9 rfl) ?_
        refine L_g (r_leq rfl rfl) (L_r (r_pt rfl rfl) (L_r (r_mb rfl) ?_))
        refine L_case (d := 54) rfl (fun h54 => ?_) (fun h54 => ?_)
        ·
         refine L_g (r_fieldb Tryz.underlying54 rfl (show _ = some 1 from rfl) rfl rfl (show _ = 2 from rfl)) ?_
         refine L_g (r_lb rfl rfl) ?_
         refine L_call (.yes 7 true rfl rfl) rfl rfl (r_call Tryz.func182 rfl rfl rfl (by rfl)) (whole_walk x.s _) ?_
         rintro v57 w4 ⟨rfl, c4⟩
         have hz4 := c4.size
         refine L_r (r_pt rfl rfl) (L_r (r_ab rfl) (L_nil ?_))
         refine ⟨⟨fx2, trivial⟩, (dec_b (by clear hck htk; first | (simp_all; done) | (simp_all; omega))), ?_⟩
         exact ⟨Bk.au, Ch.au⟩
        ·
         refine L_ps (L_ps (L_ps (L_r (r_pf rfl rfl) (L_r (r_ab rfl) (L_nil ?_)))))
         refine ⟨⟨fx2, trivial⟩, (dec_f (by clear hck htk; first | (simp_all; done) | (simp_all; omega))), ?_⟩
         exact ⟨Bk.au, Ch.au⟩
       ·
        refine L_ps (L_ps (L_ps (L_ps (L_r (r_pf rfl rfl) (L_r (r_mb rfl) (L_ps (L_ps (L_ps ?_))))))))
        refine L_r (r_pf rfl rfl) (L_r (r_ab rfl) (L_nil ?_))
        refine ⟨⟨fx2, trivial⟩, (dec_f (by clear hck htk; first | (simp_all; done) | (simp_all; omega))), ?_⟩
        exact ⟨Bk.au, Ch.au⟩
      rintro gcr10 w5 ⟨hf4, hCr10⟩
      refine W_as 4 hf4 rfl ?_
      clear hf4
      obtain ⟨hb10, hnw10⟩ := hCr10
      have hz10 := hnw10.size
      refine W_seq (W_region (L_r (r_ai rfl) (L_nil (W_block ?_))))
      refine W_loopF [1] (fun mz_ f W => ∃ (i : Nat) (b : Bool), f 4 = .bool b ∧ f 5 = .int .i64 i ∧ (i ≤ x.s.size ∧ (b = true ↔ (okR r x ∧ x.s.size ≤ 64 ∧ Lib.validD (bs x.s) = true ∧ ∀ j, j < i → (bat x.s j).toNat ≠ 10)) ∧ Bk W b1 #[.string x.op, .int .i64 x.n, .string x.s] 54 ∧ Nw w0 W) ∧ mz_ = x.s.size - i) ?_ ?_
      ·
       refine ⟨_, 0, _, rfl, rfl, ?_, rfl⟩
       refine ⟨by omega, ?_, Bk.au, Ch.au⟩
       rw [decide_eq_true_iff]
       exact ⟨fun ⟨k1, k2, k3⟩ => ⟨k1, by omega, k3, fun j hj => absurd hj (by omega)⟩, fun ⟨k1, k2, k3, _⟩ => ⟨k1, by omega, k3⟩⟩
      rintro m0 g0 w6 ⟨i, b, hf4, hf5, hR0, rfl⟩
      refine W_as 4 hf4 rfl ?_
      refine W_as 5 hf5 rfl ?_
      clear hf4 hf5
      obtain ⟨hi, hbb, hbk, hnw⟩ := hR0
      have hz := hnw.size
      refine W_seq (W_seq (W_region (L_r (r_mi rfl) ?_)))
      refine L_r (r_fieldb Tryz.underlying54 rfl (show _ = some 1 from rfl) rfl rfl (show _ = 2 from rfl)) (L_r (r_lb rfl rfl) ?_)
      refine L_r (r_lens Tryz.underlying9 rfl) (L_r (r_lss rfl rfl) (L_nil ?_))
      refine W_if rfl (fun h63 => ?_) (fun h63 => ?_)
      ·
       refine W_skip (W_seq (W_block ?_))
       refine W_endF [1, 5] (fun f W => f 4 = .bool (decide (b = true ∧ ¬ ((bat x.s i).toNat : Int) = 10)) ∧ (W = w6)) ?_ ?_
       ·
        refine W_region (L_r (r_mb rfl) (L_r (r_mb rfl) ?_))
        refine L_caseb (d := 67) rfl (fun h67 => ?_) (fun h67 => ?_)
        ·
         refine L_g (r_fieldb Tryz.underlying54 rfl (show _ = some 1 from rfl) rfl rfl (show _ = 2 from rfl)) ?_
         refine L_g (r_lb rfl rfl) ?_
         refine L_g (r_mi rfl) ?_
         refine L_g (r_indexs Tryz.underlying9 rfl rfl (by omega) (by omega) (by conv => lhs; (try simp only [Nat.mul_one, Nat.zero_add, Int.toNat_natCast, Int.toNat_zero, Int.reduceToNat, Nat.reduceMul, Nat.reduceAdd]))) ?_
         refine L_g (r_neq rfl rfl) (L_r (r_pt rfl rfl) (L_r (r_ab rfl) (L_nil ?_)))
         refine ⟨⟨fx2, fx2, trivial⟩, (dec_i (by clear hck htk; simp_all)), ?_⟩
         rfl
        ·
         refine L_ps (L_ps (L_ps (L_ps (L_ps (L_r (r_pf rfl rfl) (L_r (r_ab rfl) (L_nil ?_)))))))
         refine ⟨⟨fx2, fx2, trivial⟩, (dec_f (by clear hck htk; simp_all)), ?_⟩
         rfl
       rintro gcr14 w7 ⟨hf4, hCr14⟩
       refine W_as 4 hf4 rfl ?_
       clear hf4
       subst hCr14
       refine W_region (L_r (r_mi rfl) ?_)
       refine L_r (r_add rfl rfl (by first | exact wr_i64 (by omega) | rfl)) (L_r (r_ai rfl) (L_nil ?_))
       refine ⟨⟨fx2, trivial⟩, _, ?_, i + 1, _, rfl, rfl, ?_, rfl⟩
       · omega
       refine ⟨by omega, ?_, Bk.au, Ch.au⟩
       rw [decide_eq_true_iff]
       constructor
       ·
        rintro ⟨k1, k2⟩
        have hb := hbb.1 k1
        refine ⟨hb.1, hb.2.1, hb.2.2.1, fun j hj => ?_⟩
        rcases Nat.lt_or_ge j i with h | h
        · exact hb.2.2.2 j h
        ·
         have e : j = i := by omega
         subst e; omega
       ·
        intro k
        refine ⟨hbb.2 ⟨k.1, k.2.1, k.2.2.1, fun j hj => k.2.2.2 j (by omega)⟩, ?_⟩
        have := k.2.2.2 i (by omega)
        omega
      ·
       refine W_exit ?_
       repeat (first | refine blk_hit ?_ | refine blk_miss rfl ?_)
       refine ⟨trivial, (dec_b (by clear hck htk; first
| (unfold okQ; simp_all; done)
| (have e : x.s.size = i := by omega
   refine hbb.trans ⟨fun ⟨k1, k2, k3, k4⟩ => ⟨k1, fun _ => ?_⟩, fun ⟨k1, k2⟩ => ?_⟩
   · rw [tp_word (by assumption)]; exact ⟨k2, k3, (nonl_iff _).2 fun j hj => k4 j (by omega)⟩
   · have k3 := k2 (by assumption)
     rw [tp_word (by assumption)] at k3
     exact ⟨k1, k3.1, k3.2.1, fun j hj => (nonl_iff _).1 k3.2.2 j (by omega)⟩)
| (unfold okQ; rw [tp_new (by assumption) (by assumption)]; simp_all; done)
| (unfold okQ; rw [tp_is (by assumption) (by assumption) (by assumption)]; simp_all; done)
| (unfold okQ; rw [tp_array (by assumption) (by assumption) (fun hh => absurd (.inl hh : isC x.op) (by assumption)) (fun hh => absurd (.inr hh : isC x.op) (by assumption)) (by assumption)]; simp_all; done)
| (unfold okQ; rw [tp_array (by assumption) (by assumption) (fun hh => absurd (.inl hh : isC x.op) (by assumption)) (fun hh => absurd (.inr hh : isC x.op) (by assumption)) (by assumption)]; simp_all; (try unfold deepN); simp_all; omega)
| (unfold okQ; rw [tp_else (by assumption) (by assumption) (fun hh => absurd (.inl hh : isC x.op) (by assumption)) (fun hh => absurd (.inr hh : isC x.op) (by assumption)) (by assumption)]; simp_all; done))), ?_⟩
       exact ⟨Bk.au, Ch.au⟩
     ·
      refine W_seq (W_region (L_r (r_eqls rfl rfl) (L_r (r_ab rfl) (L_nil ?_))))
      refine W_if rfl (fun h74 => ?_) (fun h74 => ?_)
      ·
       refine W_region (L_r (r_mb rfl) (L_r (r_mb rfl) ?_))
       refine L_case (d := 77) rfl (fun h77 => ?_) (fun h77 => ?_)
       ·
        refine L_g (r_fieldb Tryz.underlying54 rfl (show _ = some 1 from rfl) rfl rfl (show _ = 2 from rfl)) ?_
        refine L_g (r_lb rfl rfl) ?_
        refine L_call (.yes 1 true rfl rfl) rfl rfl (r_call Tryz.func71 rfl rfl rfl (by rfl)) (rclass_walk x.s _ (by omega)) ?_
        rintro v80 w8 ⟨rfl, c8⟩
        have hz8 := c8.size
        refine L_r (r_pt rfl rfl) (L_r (r_ab rfl) (L_nil ?_))
        refine ⟨trivial, (dec_b (by clear hck htk; first
| (unfold okQ; simp_all; done)
| (have e : x.s.size = i := by omega
   refine hbb.trans ⟨fun ⟨k1, k2, k3, k4⟩ => ⟨k1, fun _ => ?_⟩, fun ⟨k1, k2⟩ => ?_⟩
   · rw [tp_word (by assumption)]; exact ⟨k2, k3, (nonl_iff _).2 fun j hj => k4 j (by omega)⟩
   · have k3 := k2 (by assumption)
     rw [tp_word (by assumption)] at k3
     exact ⟨k1, k3.1, k3.2.1, fun j hj => (nonl_iff _).1 k3.2.2 j (by omega)⟩)
| (unfold okQ; rw [tp_new (by assumption) (by assumption)]; simp_all; done)
| (unfold okQ; rw [tp_is (by assumption) (by assumption) (by assumption)]; simp_all; done)
| (unfold okQ; rw [tp_array (by assumption) (by assumption) (fun hh => absurd (.inl hh : isC x.op) (by assumption)) (fun hh => absurd (.inr hh : isC x.op) (by assumption)) (by assumption)]; simp_all; done)
| (unfold okQ; rw [tp_array (by assumption) (by assumption) (fun hh => absurd (.inl hh : isC x.op) (by assumption)) (fun hh => absurd (.inr hh : isC x.op) (by assumption)) (by assumption)]; simp_all; (try unfold deepN); simp_all; omega)
| (unfold okQ; rw [tp_else (by assumption) (by assumption) (fun hh => absurd (.inl hh : isC x.op) (by assumption)) (fun hh => absurd (.inr hh : isC x.op) (by assumption)) (by assumption)]; simp_all; done))), ?_⟩
        exact ⟨Bk.au, Ch.au⟩
       ·
        refine L_ps (L_ps (L_ps (L_r (r_pf rfl rfl) (L_r (r_ab rfl) (L_nil ?_)))))
        refine ⟨trivial, (dec_f (by clear hck htk; first
| (unfold okQ; simp_all; done)
| (have e : x.s.size = i := by omega
   refine hbb.trans ⟨fun ⟨k1, k2, k3, k4⟩ => ⟨k1, fun _ => ?_⟩, fun ⟨k1, k2⟩ => ?_⟩
   · rw [tp_word (by assumption)]; exact ⟨k2, k3, (nonl_iff _).2 fun j hj => k4 j (by omega)⟩
   · have k3 := k2 (by assumption)
     rw [tp_word (by assumption)] at k3
     exact ⟨k1, k3.1, k3.2.1, fun j hj => (nonl_iff _).1 k3.2.2 j (by omega)⟩)
| (unfold okQ; rw [tp_new (by assumption) (by assumption)]; simp_all; done)
| (unfold okQ; rw [tp_is (by assumption) (by assumption) (by assumption)]; simp_all; done)
| (unfold okQ; rw [tp_array (by assumption) (by assumption) (fun hh => absurd (.inl hh : isC x.op) (by assumption)) (fun hh => absurd (.inr hh : isC x.op) (by assumption)) (by assumption)]; simp_all; done)
| (unfold okQ; rw [tp_array (by assumption) (by assumption) (fun hh => absurd (.inl hh : isC x.op) (by assumption)) (fun hh => absurd (.inr hh : isC x.op) (by assumption)) (by assumption)]; simp_all; (try unfold deepN); simp_all; omega)
| (unfold okQ; rw [tp_else (by assumption) (by assumption) (fun hh => absurd (.inl hh : isC x.op) (by assumption)) (fun hh => absurd (.inr hh : isC x.op) (by assumption)) (by assumption)]; simp_all; done))), ?_⟩
        exact ⟨Bk.au, Ch.au⟩
      ·
       refine W_seq (W_seq (W_region (L_r (r_eqls rfl rfl) (L_r (r_ab rfl) (L_nil ?_)))))
       refine W_endF [1, 4, 33] (fun f W => f 82 = .bool (decide (isC x.op)) ∧ (W = w3)) ?_ ?_
       ·
        refine W_if rfl (fun h82 => ?_) (fun h82 => ?_)
        ·
         refine W_skip ?_
         refine ⟨⟨fx2, fx2, fx2, trivial⟩, (dec_i (by clear hck htk; unfold isC; first | (simp_all; done) | (constructor <;> intro h <;> simp_all))), ?_⟩
         rfl
        ·
         refine W_region (L_r (r_eqls rfl rfl) (L_r (r_ab rfl) (L_nil ?_)))
         refine ⟨⟨fx2, fx2, fx2, trivial⟩, (dec_i (by clear hck htk; unfold isC; first | (simp_all; done) | (constructor <;> intro h <;> simp_all))), ?_⟩
         rfl
       rintro gct82 w9 ⟨hf82, hCt82⟩
       refine W_as 82 hf82 rfl ?_
       clear hf82
       subst hCt82
       refine W_if rfl (fun h82 => ?_) (fun h82 => ?_)
       ·
        refine W_region (L_r (r_mb rfl) (L_r (r_mb rfl) ?_))
        refine L_case (d := 86) rfl (fun h86 => ?_) (fun h86 => ?_)
        ·
         refine L_g (r_fieldb Tryz.underlying54 rfl (show _ = some 1 from rfl) rfl rfl (show _ = 2 from rfl)) ?_
         refine L_g (r_lb rfl rfl) ?_
         refine L_call (.yes 1 true rfl rfl) rfl rfl (r_call Tryz.func73 rfl rfl rfl (by rfl)) (rright_walk x.s _ hs) ?_
         rintro v89 w10 ⟨rfl, c10⟩
         have hz10 := c10.size
         refine L_r (r_pt rfl rfl) (L_r (r_mb rfl) ?_)
         refine L_caseb (d := 91) rfl (fun h91 => ?_) (fun h91 => ?_)
         ·
          refine L_g (r_fieldb Tryz.underlying54 rfl (show _ = some 1 from rfl) rfl rfl (show _ = 2 from rfl)) ?_
          refine L_g (r_lb rfl rfl) ?_
          refine L_call (.yes 6 true rfl rfl) rfl rfl (r_call Tryz.func135 rfl rfl rfl (by rfl)) (rplain_walk x.s _) ?_
          rintro v94 w11 ⟨rfl, rfl⟩
          refine L_g (r_not rfl) (L_r (r_pt rfl rfl) (L_r (r_ab rfl) (L_nil ?_)))
          refine ⟨trivial, (dec_b (by clear hck htk; first
| (unfold okQ; simp_all; done)
| (have e : x.s.size = i := by omega
   refine hbb.trans ⟨fun ⟨k1, k2, k3, k4⟩ => ⟨k1, fun _ => ?_⟩, fun ⟨k1, k2⟩ => ?_⟩
   · rw [tp_word (by assumption)]; exact ⟨k2, k3, (nonl_iff _).2 fun j hj => k4 j (by omega)⟩
   · have k3 := k2 (by assumption)
     rw [tp_word (by assumption)] at k3
     exact ⟨k1, k3.1, k3.2.1, fun j hj => (nonl_iff _).1 k3.2.2 j (by omega)⟩)
| (unfold okQ; rw [tp_new (by assumption) (by assumption)]; simp_all; done)
| (unfold okQ; rw [tp_is (by assumption) (by assumption) (by assumption)]; simp_all; done)
| (unfold okQ; rw [tp_array (by assumption) (by assumption) (fun hh => absurd (.inl hh : isC x.op) (by assumption)) (fun hh => absurd (.inr hh : isC x.op) (by assumption)) (by assumption)]; simp_all; done)
| (unfold okQ; rw [tp_array (by assumption) (by assumption) (fun hh => absurd (.inl hh : isC x.op) (by assumption)) (fun hh => absurd (.inr hh : isC x.op) (by assumption)) (by assumption)]; simp_all; (try unfold deepN); simp_all; omega)
| (unfold okQ; rw [tp_else (by assumption) (by assumption) (fun hh => absurd (.inl hh : isC x.op) (by assumption)) (fun hh => absurd (.inr hh : isC x.op) (by assumption)) (by assumption)]; simp_all; done))), ?_⟩
          exact ⟨Bk.au, Ch.au⟩
         ·
          refine L_ps (L_ps (L_ps (L_ps (L_r (r_pf rfl rfl) (L_r (r_ab rfl) (L_nil ?_))))))
          refine ⟨trivial, (dec_f (by clear hck htk; first
| (unfold okQ; simp_all; done)
| (have e : x.s.size = i := by omega
   refine hbb.trans ⟨fun ⟨k1, k2, k3, k4⟩ => ⟨k1, fun _ => ?_⟩, fun ⟨k1, k2⟩ => ?_⟩
   · rw [tp_word (by assumption)]; exact ⟨k2, k3, (nonl_iff _).2 fun j hj => k4 j (by omega)⟩
   · have k3 := k2 (by assumption)
     rw [tp_word (by assumption)] at k3
     exact ⟨k1, k3.1, k3.2.1, fun j hj => (nonl_iff _).1 k3.2.2 j (by omega)⟩)
| (unfold okQ; rw [tp_new (by assumption) (by assumption)]; simp_all; done)
| (unfold okQ; rw [tp_is (by assumption) (by assumption) (by assumption)]; simp_all; done)
| (unfold okQ; rw [tp_array (by assumption) (by assumption) (fun hh => absurd (.inl hh : isC x.op) (by assumption)) (fun hh => absurd (.inr hh : isC x.op) (by assumption)) (by assumption)]; simp_all; done)
| (unfold okQ; rw [tp_array (by assumption) (by assumption) (fun hh => absurd (.inl hh : isC x.op) (by assumption)) (fun hh => absurd (.inr hh : isC x.op) (by assumption)) (by assumption)]; simp_all; (try unfold deepN); simp_all; omega)
| (unfold okQ; rw [tp_else (by assumption) (by assumption) (fun hh => absurd (.inl hh : isC x.op) (by assumption)) (fun hh => absurd (.inr hh : isC x.op) (by assumption)) (by assumption)]; simp_all; done))), ?_⟩
          exact ⟨Bk.au, Ch.au⟩
        ·
         refine L_ps (L_ps (L_ps (L_r (r_pf rfl rfl) (L_r (r_mb rfl) (L_ps (L_ps (L_ps (L_ps ?_))))))))
         refine L_r (r_pf rfl rfl) (L_r (r_ab rfl) (L_nil ?_))
         refine ⟨trivial, (dec_f (by clear hck htk; first
| (unfold okQ; simp_all; done)
| (have e : x.s.size = i := by omega
   refine hbb.trans ⟨fun ⟨k1, k2, k3, k4⟩ => ⟨k1, fun _ => ?_⟩, fun ⟨k1, k2⟩ => ?_⟩
   · rw [tp_word (by assumption)]; exact ⟨k2, k3, (nonl_iff _).2 fun j hj => k4 j (by omega)⟩
   · have k3 := k2 (by assumption)
     rw [tp_word (by assumption)] at k3
     exact ⟨k1, k3.1, k3.2.1, fun j hj => (nonl_iff _).1 k3.2.2 j (by omega)⟩)
| (unfold okQ; rw [tp_new (by assumption) (by assumption)]; simp_all; done)
| (unfold okQ; rw [tp_is (by assumption) (by assumption) (by assumption)]; simp_all; done)
| (unfold okQ; rw [tp_array (by assumption) (by assumption) (fun hh => absurd (.inl hh : isC x.op) (by assumption)) (fun hh => absurd (.inr hh : isC x.op) (by assumption)) (by assumption)]; simp_all; done)
| (unfold okQ; rw [tp_array (by assumption) (by assumption) (fun hh => absurd (.inl hh : isC x.op) (by assumption)) (fun hh => absurd (.inr hh : isC x.op) (by assumption)) (by assumption)]; simp_all; (try unfold deepN); simp_all; omega)
| (unfold okQ; rw [tp_else (by assumption) (by assumption) (fun hh => absurd (.inl hh : isC x.op) (by assumption)) (fun hh => absurd (.inr hh : isC x.op) (by assumption)) (by assumption)]; simp_all; done))), ?_⟩
         exact ⟨Bk.au, Ch.au⟩
       ·
        refine W_seq (W_region (L_r (r_eqls rfl rfl) (L_r (r_ab rfl) (L_nil ?_))))
        refine W_if rfl (fun h97 => ?_) (fun h97 => ?_)
        ·
         refine W_region (L_r (r_mb rfl) (L_r (r_mb rfl) ?_))
         refine L_case (d := 100) rfl (fun h100 => ?_) (fun h100 => ?_)
         ·
          refine L_g (r_fieldb Tryz.underlying54 rfl (show _ = some 1 from rfl) rfl rfl (show _ = 2 from rfl)) ?_
          refine L_g (r_lb rfl rfl) ?_
          refine L_call (.yes 1 true rfl rfl) rfl rfl (r_call Tryz.func73 rfl rfl rfl (by rfl)) (rright_walk x.s _ hs) ?_
          rintro v103 w12 ⟨rfl, c12⟩
          have hz12 := c12.size
          refine L_r (r_pt rfl rfl) (L_r (r_mb rfl) ?_)
          refine L_caseb (d := 105) rfl (fun h105 => ?_) (fun h105 => ?_)
          ·
           refine L_g (r_fieldb Tryz.underlying54 rfl (show _ = some 1 from rfl) rfl rfl (show _ = 2 from rfl)) ?_
           refine L_g (r_lb rfl rfl) ?_
           refine L_call (.yes 6 true rfl rfl) rfl rfl (r_call Tryz.func134 rfl rfl rfl (by rfl)) (rdeep_walk x.s _ hs) ?_
           rintro v108 w13 ⟨rfl, c13⟩
           have hz13 := c13.size
           refine L_g (r_lss rfl rfl) (L_r (r_pt rfl rfl) (L_r (r_ab rfl) (L_nil ?_)))
           refine ⟨trivial, (dec_i (by clear hck htk; first
| (unfold okQ; simp_all; done)
| (have e : x.s.size = i := by omega
   refine hbb.trans ⟨fun ⟨k1, k2, k3, k4⟩ => ⟨k1, fun _ => ?_⟩, fun ⟨k1, k2⟩ => ?_⟩
   · rw [tp_word (by assumption)]; exact ⟨k2, k3, (nonl_iff _).2 fun j hj => k4 j (by omega)⟩
   · have k3 := k2 (by assumption)
     rw [tp_word (by assumption)] at k3
     exact ⟨k1, k3.1, k3.2.1, fun j hj => (nonl_iff _).1 k3.2.2 j (by omega)⟩)
| (unfold okQ; rw [tp_new (by assumption) (by assumption)]; simp_all; done)
| (unfold okQ; rw [tp_is (by assumption) (by assumption) (by assumption)]; simp_all; done)
| (unfold okQ; rw [tp_array (by assumption) (by assumption) (fun hh => absurd (.inl hh : isC x.op) (by assumption)) (fun hh => absurd (.inr hh : isC x.op) (by assumption)) (by assumption)]; simp_all; done)
| (unfold okQ; rw [tp_array (by assumption) (by assumption) (fun hh => absurd (.inl hh : isC x.op) (by assumption)) (fun hh => absurd (.inr hh : isC x.op) (by assumption)) (by assumption)]; simp_all; (try unfold deepN); simp_all; omega)
| (unfold okQ; rw [tp_else (by assumption) (by assumption) (fun hh => absurd (.inl hh : isC x.op) (by assumption)) (fun hh => absurd (.inr hh : isC x.op) (by assumption)) (by assumption)]; simp_all; done))), ?_⟩
           exact ⟨Bk.au, Ch.au⟩
          ·
           refine L_ps (L_ps (L_ps (L_ps (L_r (r_pf rfl rfl) (L_r (r_ab rfl) (L_nil ?_))))))
           refine ⟨trivial, (dec_f (by clear hck htk; first
| (unfold okQ; simp_all; done)
| (have e : x.s.size = i := by omega
   refine hbb.trans ⟨fun ⟨k1, k2, k3, k4⟩ => ⟨k1, fun _ => ?_⟩, fun ⟨k1, k2⟩ => ?_⟩
   · rw [tp_word (by assumption)]; exact ⟨k2, k3, (nonl_iff _).2 fun j hj => k4 j (by omega)⟩
   · have k3 := k2 (by assumption)
     rw [tp_word (by assumption)] at k3
     exact ⟨k1, k3.1, k3.2.1, fun j hj => (nonl_iff _).1 k3.2.2 j (by omega)⟩)
| (unfold okQ; rw [tp_new (by assumption) (by assumption)]; simp_all; done)
| (unfold okQ; rw [tp_is (by assumption) (by assumption) (by assumption)]; simp_all; done)
| (unfold okQ; rw [tp_array (by assumption) (by assumption) (fun hh => absurd (.inl hh : isC x.op) (by assumption)) (fun hh => absurd (.inr hh : isC x.op) (by assumption)) (by assumption)]; simp_all; done)
| (unfold okQ; rw [tp_array (by assumption) (by assumption) (fun hh => absurd (.inl hh : isC x.op) (by assumption)) (fun hh => absurd (.inr hh : isC x.op) (by assumption)) (by assumption)]; simp_all; (try unfold deepN); simp_all; omega)
| (unfold okQ; rw [tp_else (by assumption) (by assumption) (fun hh => absurd (.inl hh : isC x.op) (by assumption)) (fun hh => absurd (.inr hh : isC x.op) (by assumption)) (by assumption)]; simp_all; done))), ?_⟩
           exact ⟨Bk.au, Ch.au⟩
         ·
          refine L_ps (L_ps (L_ps (L_r (r_pf rfl rfl) (L_r (r_mb rfl) (L_ps (L_ps (L_ps (L_ps ?_))))))))
          refine L_r (r_pf rfl rfl) (L_r (r_ab rfl) (L_nil ?_))
          refine ⟨trivial, (dec_f (by clear hck htk; first
| (unfold okQ; simp_all; done)
| (have e : x.s.size = i := by omega
   refine hbb.trans ⟨fun ⟨k1, k2, k3, k4⟩ => ⟨k1, fun _ => ?_⟩, fun ⟨k1, k2⟩ => ?_⟩
   · rw [tp_word (by assumption)]; exact ⟨k2, k3, (nonl_iff _).2 fun j hj => k4 j (by omega)⟩
   · have k3 := k2 (by assumption)
     rw [tp_word (by assumption)] at k3
     exact ⟨k1, k3.1, k3.2.1, fun j hj => (nonl_iff _).1 k3.2.2 j (by omega)⟩)
| (unfold okQ; rw [tp_new (by assumption) (by assumption)]; simp_all; done)
| (unfold okQ; rw [tp_is (by assumption) (by assumption) (by assumption)]; simp_all; done)
| (unfold okQ; rw [tp_array (by assumption) (by assumption) (fun hh => absurd (.inl hh : isC x.op) (by assumption)) (fun hh => absurd (.inr hh : isC x.op) (by assumption)) (by assumption)]; simp_all; done)
| (unfold okQ; rw [tp_array (by assumption) (by assumption) (fun hh => absurd (.inl hh : isC x.op) (by assumption)) (fun hh => absurd (.inr hh : isC x.op) (by assumption)) (by assumption)]; simp_all; (try unfold deepN); simp_all; omega)
| (unfold okQ; rw [tp_else (by assumption) (by assumption) (fun hh => absurd (.inl hh : isC x.op) (by assumption)) (fun hh => absurd (.inr hh : isC x.op) (by assumption)) (by assumption)]; simp_all; done))), ?_⟩
          exact ⟨Bk.au, Ch.au⟩
        ·
         refine W_seq (W_region ?_)
         refine L_r (r_fieldb Tryz.underlying54 rfl (show _ = some 1 from rfl) rfl rfl (show _ = 2 from rfl)) (L_r (r_lb rfl rfl) ?_)
         refine L_call (.plain rfl) rfl rfl (r_call Tryz.func183 rfl rfl rfl (by rfl)) (rparts_walk x.s _ hs) ?_
         rintro v37 w14 ⟨⟨px, py, rfl, _⟩, c14⟩
         have hz14 := c14.size
         refine L_r (r_mv) (L_r (r_ext3_0 rfl) (L_r (r_ext3_1 rfl) (L_r (r_ext3_2 rfl) (L_r (r_as rfl) (L_r (r_as rfl) (L_r (r_ab rfl) (L_nil (W_region ?_))))))))
         refine L_r (r_mb rfl) (L_r (r_mb rfl) ?_)
         refine L_case (d := 42) rfl (fun h42 => ?_) (fun h42 => ?_)
         ·
          refine L_g (r_mb rfl) (L_r (r_pt rfl rfl) (L_r (r_ab rfl) (L_nil ?_)))
          refine ⟨trivial, (dec_b (by clear hck htk; first
| (unfold okQ; simp_all; done)
| (have e : x.s.size = i := by omega
   refine hbb.trans ⟨fun ⟨k1, k2, k3, k4⟩ => ⟨k1, fun _ => ?_⟩, fun ⟨k1, k2⟩ => ?_⟩
   · rw [tp_word (by assumption)]; exact ⟨k2, k3, (nonl_iff _).2 fun j hj => k4 j (by omega)⟩
   · have k3 := k2 (by assumption)
     rw [tp_word (by assumption)] at k3
     exact ⟨k1, k3.1, k3.2.1, fun j hj => (nonl_iff _).1 k3.2.2 j (by omega)⟩)
| (unfold okQ; rw [tp_new (by assumption) (by assumption)]; simp_all; done)
| (unfold okQ; rw [tp_is (by assumption) (by assumption) (by assumption)]; simp_all; done)
| (unfold okQ; rw [tp_array (by assumption) (by assumption) (fun hh => absurd (.inl hh : isC x.op) (by assumption)) (fun hh => absurd (.inr hh : isC x.op) (by assumption)) (by assumption)]; simp_all; done)
| (unfold okQ; rw [tp_array (by assumption) (by assumption) (fun hh => absurd (.inl hh : isC x.op) (by assumption)) (fun hh => absurd (.inr hh : isC x.op) (by assumption)) (by assumption)]; simp_all; (try unfold deepN); simp_all; omega)
| (unfold okQ; rw [tp_else (by assumption) (by assumption) (fun hh => absurd (.inl hh : isC x.op) (by assumption)) (fun hh => absurd (.inr hh : isC x.op) (by assumption)) (by assumption)]; simp_all; done))), ?_⟩
          exact ⟨Bk.au, Ch.au⟩
         ·
          refine L_ps (L_r (r_pf rfl rfl) (L_r (r_ab rfl) (L_nil ?_)))
          refine ⟨trivial, (dec_f (by clear hck htk; first
| (unfold okQ; simp_all; done)
| (have e : x.s.size = i := by omega
   refine hbb.trans ⟨fun ⟨k1, k2, k3, k4⟩ => ⟨k1, fun _ => ?_⟩, fun ⟨k1, k2⟩ => ?_⟩
   · rw [tp_word (by assumption)]; exact ⟨k2, k3, (nonl_iff _).2 fun j hj => k4 j (by omega)⟩
   · have k3 := k2 (by assumption)
     rw [tp_word (by assumption)] at k3
     exact ⟨k1, k3.1, k3.2.1, fun j hj => (nonl_iff _).1 k3.2.2 j (by omega)⟩)
| (unfold okQ; rw [tp_new (by assumption) (by assumption)]; simp_all; done)
| (unfold okQ; rw [tp_is (by assumption) (by assumption) (by assumption)]; simp_all; done)
| (unfold okQ; rw [tp_array (by assumption) (by assumption) (fun hh => absurd (.inl hh : isC x.op) (by assumption)) (fun hh => absurd (.inr hh : isC x.op) (by assumption)) (by assumption)]; simp_all; done)
| (unfold okQ; rw [tp_array (by assumption) (by assumption) (fun hh => absurd (.inl hh : isC x.op) (by assumption)) (fun hh => absurd (.inr hh : isC x.op) (by assumption)) (by assumption)]; simp_all; (try unfold deepN); simp_all; omega)
| (unfold okQ; rw [tp_else (by assumption) (by assumption) (fun hh => absurd (.inl hh : isC x.op) (by assumption)) (fun hh => absurd (.inr hh : isC x.op) (by assumption)) (by assumption)]; simp_all; done))), ?_⟩
          exact ⟨Bk.au, Ch.au⟩
    ·
     refine W_skip ?_
     refine ⟨trivial, (dec_i (by clear hck htk; first
| (unfold okQ; simp_all; done)
| (have e : x.s.size = i := by omega
   refine hbb.trans ⟨fun ⟨k1, k2, k3, k4⟩ => ⟨k1, fun _ => ?_⟩, fun ⟨k1, k2⟩ => ?_⟩
   · rw [tp_word (by assumption)]; exact ⟨k2, k3, (nonl_iff _).2 fun j hj => k4 j (by omega)⟩
   · have k3 := k2 (by assumption)
     rw [tp_word (by assumption)] at k3
     exact ⟨k1, k3.1, k3.2.1, fun j hj => (nonl_iff _).1 k3.2.2 j (by omega)⟩)
| (unfold okQ; rw [tp_new (by assumption) (by assumption)]; simp_all; done)
| (unfold okQ; rw [tp_is (by assumption) (by assumption) (by assumption)]; simp_all; done)
| (unfold okQ; rw [tp_array (by assumption) (by assumption) (fun hh => absurd (.inl hh : isC x.op) (by assumption)) (fun hh => absurd (.inr hh : isC x.op) (by assumption)) (by assumption)]; simp_all; done)
| (unfold okQ; rw [tp_array (by assumption) (by assumption) (fun hh => absurd (.inl hh : isC x.op) (by assumption)) (fun hh => absurd (.inr hh : isC x.op) (by assumption)) (by assumption)]; simp_all; (try unfold deepN); simp_all; omega)
| (unfold okQ; rw [tp_else (by assumption) (by assumption) (fun hh => absurd (.inl hh : isC x.op) (by assumption)) (fun hh => absurd (.inr hh : isC x.op) (by assumption)) (by assumption)]; simp_all; done))), ?_⟩
     exact ⟨Bk.au, Ch.au⟩
   rintro gct31 w15 ⟨hf4, hCt31⟩
   refine W_as 4 hf4 rfl ?_
   clear hf4
   obtain ⟨hb31, hnw⟩ := hCt31
   have hz31 := hnw.size
   refine W_seq (W_seq (W_region (L_r (r_mb rfl) (L_r (r_notp rfl) (L_nil ?_)))))
   refine W_if rfl (fun h112 => ?_) (fun h112 => ?_)
   ·
    refine W_seq (W_region (L_r (r_ai rfl) (L_nil (W_ret ?_))))
    refine ret1 (v := .int _ _) rfl rfl ?_
    refine ⟨?_, Ch.au⟩
    rw [hck]
    first
    | (rw [if_pos (by assumption)]; done)
    | (rw [if_neg (by assumption), if_pos (by assumption)]; done)
    | (rw [if_neg (by assumption), if_neg (by assumption)]; done)
    | (rw [if_neg (by assumption), if_pos (Classical.not_not.1 (by assumption))]; done)
   ·
    refine W_skip (W_seq (W_region (L_r (r_ai rfl) (L_nil (W_ret ?_)))))
    refine ret1 (v := .int _ _) rfl rfl ?_
    refine ⟨?_, Ch.au⟩
    rw [hck]
    first
    | (rw [if_pos (by assumption)]; done)
    | (rw [if_neg (by assumption), if_pos (by assumption)]; done)
    | (rw [if_neg (by assumption), if_neg (by assumption)]; done)
    | (rw [if_neg (by assumption), if_pos (Classical.not_not.1 (by assumption))]; done)
theorem rall04_walk (v : Value) (z : List Ins) (w0 : World) (hv : Sl w0 v 3 z.length (cellsI z)) (hl : z.length ≤ 1000000000000000) (hs : ∀ x ∈ z, x.s.size ≤ 1000000000000000) : Does Tryz.prog 136 #[v] w0 (fun r w' => r = .int .i64 (allI z) ∧ Nw w0 w') := by
  refine fn_of (n := 19) (args := [v]) Tryz.func136 rfl rfl rfl (W_seq (W_region (L_r (r_ai rfl) (L_nil (W_seq (W_seq (W_region (L_r (r_ai rfl) ?_))))))))
  refine L_nil (W_block ?_)
  refine W_loopF [0] (fun mz_ f W => ∃ (i : Nat), f 3 = .int .i64 i ∧ (i ≤ z.length ∧ allI z = allI (z.drop i) ∧ Nw w0 W) ∧ mz_ = z.length - i) ?_ ?_
  ·
   refine ⟨_, 0, rfl, ?_, rfl⟩
   exact ⟨by omega, rfl, Ch.au⟩
  rintro m0 g0 w1 ⟨i, hf3, hR0, rfl⟩
  refine W_as 3 hf3 rfl ?_
  clear hf3
  obtain ⟨hi, ha, hnw⟩ := hR0
  have hz := hnw.size
  refine W_seq (W_seq (W_region (L_r (r_mi rfl) (L_r (r_mv) ?_))))
  refine L_r (r_lenSl Tryz.underlying40 (by conv => lhs; whnf) Sl.au) (L_r (r_lss rfl rfl) (L_nil ?_))
  refine W_if rfl (fun h8 => ?_) (fun h8 => ?_)
  ·
   have hil : i < z.length := by omega
   have hrow := cellsI_row z i hil
   have hsx := hs z[i] (List.getElem_mem _)
   obtain ⟨x, hx⟩ : ∃ x, x = z[i] := ⟨_, rfl⟩
   rw [← hx] at hrow hsx
   refine W_skip (W_seq (W_block (W_seq (W_region (L_r (r_mv) (L_r (r_mi rfl) ?_))))))
   refine L_r (r_ix Tryz.underlying40 (show _ = some 3 from rfl) (by conv => lhs; whnf) rfl Sl.au) ?_
   refine L_r (r_loadSlrow (us := [.string x.op, .int .i64 x.n, .string x.s]) Tryz.underlying54 rfl rfl rfl rfl Sl.au (by exact hrow)) ?_
   refine L_call (.plain rfl) rfl rfl (r_call Tryz.func167 rfl rfl rfl (by rfl)) (rcheck04_walk x _ hsx) ?_
   rintro v15 w2 ⟨rfl, c2⟩
   have hz2 := c2.size
   refine L_r (r_ai rfl) (L_nil (W_seq (W_region (L_r (r_mi rfl) (L_r (r_neq rfl rfl) (L_nil ?_))))))
   refine W_if rfl (fun h17 => ?_) (fun h17 => ?_)
   ·
    refine W_seq (W_region (L_r (r_mi rfl) (L_r (r_ai rfl) (L_nil (W_ret ?_)))))
    refine ret1 (v := .int _ _) rfl rfl ?_
    refine ⟨?_, Ch.au⟩
    first
    | (have hd := allI_drop z i hil
       rw [← hx, if_pos h17] at hd
       rw [ha, hd])
    | (rw [ha, List.drop_eq_nil_of_le (by omega)]; rfl)
   ·
    refine W_skip (W_region (L_r (r_mi rfl) ?_))
    refine L_r (r_add rfl rfl (by first | exact wr_i64 (by omega) | rfl)) (L_r (r_ai rfl) (L_nil ?_))
    refine ⟨⟨fx2, trivial⟩, _, ?_, i + 1, rfl, ?_, rfl⟩
    · omega
    have hd := allI_drop z i hil
    rw [← hx, if_neg (by simpa using h17)] at hd
    exact ⟨by omega, ha.trans hd, Ch.au⟩
  ·
   refine W_exit ?_
   repeat (first | refine blk_hit ?_ | refine blk_miss rfl ?_)
   refine W_seq (W_region (L_r (r_ai rfl) (L_nil (W_ret ?_))))
   refine ret1 (v := .int _ _) rfl rfl ?_
   refine ⟨?_, Ch.au⟩
   first
   | (have hd := allI_drop z i hil
      rw [← hx, if_pos h17] at hd
      rw [ha, hd])
   | (rw [ha, List.drop_eq_nil_of_le (by omega)]; rfl)
theorem eqIns (n n' : Int) (o s o' s' : ByteArray) (W : World) :
    (Op.equal 54 (.agg #[.string o, .int .i64 n, .string s]) (.agg #[.string o', .int .i64 n', .string s'])).run Tryz.prog W = .ok (decide (o = o' ∧ n = n' ∧ s = s')) W := by
  rw [eq_struct Tryz.underlying54 (by kernel_rfl)]
  refine (eqF_cons (by decide) (by kernel_rfl) rfl rfl (eqI_string Tryz.underlying9) (eqF_cons (by decide) (by kernel_rfl) rfl rfl (eqI_int Tryz.underlying2) (eqF_cons (by decide) (by kernel_rfl) rfl rfl (eqI_string Tryz.underlying9) eqF_nil))).trans ?_
  congr 1
  by_cases h : o = o' ∧ n = n' ∧ s = s'
  · rw [decide_eq_true h, decide_eq_true (by simpa using h)]
  · rw [decide_eq_false h, decide_eq_false (by simpa using h)]
theorem ins_eq {x y : Ins} (h : x.op = y.op ∧ x.n = y.n ∧ x.s = y.s) : x = y := by
  obtain ⟨a, b, c⟩ := x
  obtain ⟨a', b', c'⟩ := y
  simp only at h
  obtain ⟨rfl, rfl, rfl⟩ := h
  rfl
theorem rsame04_walk (v : Value) (z : List Ins) (u : Value) (y : List Ins) (w0 : World) (hv : Sl w0 v 3 z.length (cellsI z)) (hu : Sl w0 u 3 y.length (cellsI y)) (hl : z.length ≤ 1000000000000000) : Does Tryz.prog 104 #[v, u] w0 (fun r w' => ∃ b, r = .bool b ∧ (b = true ↔ z = y) ∧ Nw w0 w') := by
  refine fn_of (n := 26) (args := [v, u]) Tryz.func104 rfl rfl rfl (W_seq (W_region (L_r (r_ab rfl) (L_nil (W_seq (W_seq (W_region (L_r (r_mv) ?_))))))))
  refine L_r (r_lenSl Tryz.underlying40 (by conv => lhs; whnf) Sl.au) (L_r (r_mv) ?_)
  refine L_r (r_lenSl Tryz.underlying40 (by conv => lhs; whnf) Sl.au) (L_r (r_neq rfl rfl) (L_nil ?_))
  refine W_if rfl (fun h10 => ?_) (fun h10 => ?_)
  ·
   refine W_seq (W_region (L_r (r_ab rfl) (L_nil (W_ret ?_))))
   refine ret1 (v := .bool _) rfl rfl ?_
   first
   | exact ⟨_, rfl, ⟨fun h => (by cases h), fun h => (by rw [h] at h10; exact absurd rfl h10)⟩, Ch.au⟩
   | exact ⟨_, rfl, ⟨fun h => (by cases h), fun h => (by exfalso; apply h25; subst h; rw [hx, hx']; exact ⟨rfl, rfl, rfl⟩)⟩, Ch.au⟩
   | exact ⟨_, rfl, ⟨fun _ => List.ext_getElem hle fun j h1 h2 => ha j h1 h2 (by omega), fun _ => rfl⟩, Ch.au⟩
  ·
   refine W_skip (W_seq (W_seq (W_region (L_r (r_ai rfl) (L_nil (W_block ?_))))))
   refine W_loopF [0, 1] (fun mz_ f W => ∃ (i : Nat), f 5 = .int .i64 i ∧ (i ≤ z.length ∧ z.length = y.length ∧ (∀ j (h1 : j < z.length) (h2 : j < y.length), j < i → z[j] = y[j]) ∧ Nw w0 W) ∧ mz_ = z.length - i) ?_ ?_
   ·
    refine ⟨_, 0, rfl, ?_, rfl⟩
    exact ⟨by omega, by omega, fun j h1 h2 hj => absurd hj (by omega), Ch.au⟩
   rintro m0 g0 w1 ⟨i, hf5, hR0, rfl⟩
   refine W_as 5 hf5 rfl ?_
   clear hf5
   obtain ⟨hi, hle, ha, hnw⟩ := hR0
   have hz := hnw.size
   refine W_seq (W_seq (W_region (L_r (r_mi rfl) (L_r (r_mv) ?_))))
   refine L_r (r_lenSl Tryz.underlying40 (by conv => lhs; whnf) Sl.au) (L_r (r_lss rfl rfl) (L_nil ?_))
   refine W_if rfl (fun h14 => ?_) (fun h14 => ?_)
   ·
    have hil : i < z.length := by omega
    have hil' : i < y.length := by omega
    have hrow := cellsI_row z i hil
    have hrow' := cellsI_row y i hil'
    obtain ⟨x, hx⟩ : ∃ x, x = z[i] := ⟨_, rfl⟩
    obtain ⟨x', hx'⟩ : ∃ x, x = y[i] := ⟨_, rfl⟩
    rw [← hx] at hrow
    rw [← hx'] at hrow'
    refine W_skip (W_seq (W_block (W_seq ?_)))
    refine W_draw (fun W => Sl W v 3 z.length (cellsI z) ∧ Sl W u 3 y.length (cellsI y)) 9 (m := 9) (by kernel_rfl) rfl (fun w2 c2 hs2 => ?_)
    refine held (by exact ⟨Sl.au, Sl.au⟩) (fun hS => ?_)
    refine D_t 0 rfl (fun W hW => r_mv) ?_
    refine D_t 1 rfl (fun W hW => r_mi rfl) ?_
    refine D_t 2 rfl (fun W hW => r_ix Tryz.underlying40 (show _ = some 3 from rfl) (by conv => lhs; whnf) rfl gw) ?_
    refine D_t 3 rfl (fun W hW => r_loadSlrow (us := [.string x.op, .int .i64 x.n, .string x.s]) Tryz.underlying54 rfl rfl rfl rfl gw (by exact hrow)) ?_
    refine D_t 4 rfl (fun W hW => r_mv) ?_
    refine D_t 5 rfl (fun W hW => r_mi rfl) ?_
    refine D_t 6 rfl (fun W hW => r_ix Tryz.underlying40 (show _ = some 3 from rfl) (by conv => lhs; whnf) rfl gw) ?_
    refine D_t 7 rfl (fun W hW => r_loadSlrow (us := [.string x'.op, .int .i64 x'.n, .string x'.s]) Tryz.underlying54 rfl rfl rfl rfl gw (by exact hrow')) ?_
    refine D_t 8 rfl (fun W hW => r_neqR (xs := #[.string _, .int _ _, .string _]) (ys := #[.string _, .int _ _, .string _]) rfl rfl (by kernel_rfl) (eqIns _ _ _ _ _ _ _)) ?_
    refine D_done (by kernel_rfl) ?_
    refine W_if rfl (fun h25 => ?_) (fun h25 => ?_)
    ·
     refine W_seq (W_region (L_r (r_ab rfl) (L_nil (W_ret ?_))))
     refine ret1 (v := .bool _) rfl rfl ?_
     first
     | exact ⟨_, rfl, ⟨fun h => (by cases h), fun h => (by rw [h] at h10; exact absurd rfl h10)⟩, Ch.au⟩
     | exact ⟨_, rfl, ⟨fun h => (by cases h), fun h => (by exfalso; apply h25; subst h; rw [hx, hx']; exact ⟨rfl, rfl, rfl⟩)⟩, Ch.au⟩
     | exact ⟨_, rfl, ⟨fun _ => List.ext_getElem hle fun j h1 h2 => ha j h1 h2 (by omega), fun _ => rfl⟩, Ch.au⟩
    ·
     refine W_skip (W_region (L_r (r_mi rfl) ?_))
     refine L_r (r_add rfl rfl (by first | exact wr_i64 (by omega) | rfl)) (L_r (r_ai rfl) (L_nil ?_))
     refine ⟨⟨fx2, fx2, trivial⟩, _, ?_, i + 1, rfl, ?_, rfl⟩
     · omega
     refine ⟨by omega, hle, fun j h1 h2 hj => ?_, Ch.au⟩
     rcases Nat.lt_or_ge j i with h | h
     · exact ha j h1 h2 h
     ·
      have e : j = i := by omega
      subst e
      rw [← hx, ← hx']
      exact ins_eq (by simpa using h25)
   ·
    refine W_exit ?_
    repeat (first | refine blk_hit ?_ | refine blk_miss rfl ?_)
    refine W_seq (W_region (L_r (r_ab rfl) (L_nil (W_ret ?_))))
    refine ret1 (v := .bool _) rfl rfl ?_
    first
    | exact ⟨_, rfl, ⟨fun h => (by cases h), fun h => (by rw [h] at h10; exact absurd rfl h10)⟩, Ch.au⟩
    | exact ⟨_, rfl, ⟨fun h => (by cases h), fun h => (by exfalso; apply h25; subst h; rw [hx, hx']; exact ⟨rfl, rfl, rfl⟩)⟩, Ch.au⟩
    | exact ⟨_, rfl, ⟨fun _ => List.ext_getElem hle fun j h1 h2 => ha j h1 h2 (by omega), fun _ => rfl⟩, Ch.au⟩
end Go.Proofs.YthpknpfhpkkheaaGreatDoor

namespace Go.Proofs.YthpknpfhpkkheaaGreatDoor
open Go Go.RowKit
set_option linter.unusedVariables false
set_option maxRecDepth 100000
set_option linter.unusedSimpArgs false
def valN : Nat → List UInt8 → Nat
  | 0, _ => 0
  | _ + 1, [] => 0
  | n + 1, c :: t => c.toNat % 128 + 128 * valN n t
section
variable {n : Nat} {l : List UInt8}
end
/-- What the document's number gives. -/
def numV (s : ByteArray) : Value := if (numL 0 (bs s)).1 = 0 then .tuple #[.int .u64 ((numL 0 (bs s)).2.1 : Nat), .string (s.extract (numL 0 (bs s)).2.2 s.size), .int .i64 0] else .tuple #[.int .u64 0, .string s, .int .i64 (numL 0 (bs s)).1]
end Go.Proofs.YthpknpfhpkkheaaGreatDoor

namespace Go.Proofs.YthpknpfhpkkheaaGreatDoor
open Go Go.RowKit
set_option linter.unusedVariables false
set_option maxRecDepth 100000
set_option linter.unusedSimpArgs false
structure Fld where
  kind : Int
  most : Int
  n : Nat
  i : Int
  yes : Bool
  s : ByteArray
instance : Inhabited Fld := ⟨⟨0, 0, 0, 0, false, ByteArray.empty⟩⟩
def Fld.v (f : Fld) : Value := .agg #[.int .i64 f.kind, .int .i64 f.most, .int .u64 f.n, .int .i64 f.i, .bool f.yes, .string f.s]
/-- Nothing is read. -/
def Fld.none (kind most : Int) : Fld := ⟨kind, most, 0, 0, false, sb []⟩
/-- A field that bytes begin with: the error, the field, how many bytes. -/
def rdF (kind most : Int) (l : List UInt8) : Int × Fld × Nat :=
  if kind = 3 then ((flagR l).1, { Fld.none kind most with yes := (flagR l).2.1 }, (flagR l).2.2)
  else if kind = 0 then ((numL 0 l).1, { Fld.none kind most with n := (numL 0 l).2.1 }, (numL 0 l).2.2)
  else if kind = 1 then ((numL 0 l).1, { Fld.none kind most with i := zagI ((numL 0 l).2.1 : Nat) }, (numL 0 l).2.2)
  else if kind = 2 then ((countR most l).1, { Fld.none kind most with n := (countR most l).2.1 }, (countR most l).2.2)
  else ((textR l).1, { Fld.none kind most with s := sb (textR l).2.1 }, (textR l).2.2)
/-- What the document's reading gives. -/
def getV (kind most : Int) (s : ByteArray) : Value := if (rdF kind most (bs s)).1 = 0 then .tuple #[(rdF kind most (bs s)).2.1.v, .string (s.extract (rdF kind most (bs s)).2.2 s.size), .int .i64 0] else .tuple #[(Fld.none kind most).v, .string s, .int .i64 (rdF kind most (bs s)).1]
section
variable {kind most : Int} {l : List UInt8} {e : Int} {v n : Nat}
theorem rd_t (h3 : ¬ kind = 3) (k0 : ¬ kind = 0) (k1 : ¬ kind = 1) (k2 : ¬ kind = 2) : rdF kind most l = ((textR l).1, { Fld.none kind most with s := sb (textR l).2.1 }, (textR l).2.2) := by
  unfold rdF; rw [if_neg h3, if_neg k0, if_neg k1, if_neg k2]
theorem numL_in : ∀ (l : List UInt8) (i : Nat), (numL i l).1 = 0 → (numL i l).2.2 ≤ l.length
  | [], i, h => by simp [numL] at h
  | c :: t, i, h => by
    unfold numL at h ⊢
    split
    · simp
    ·
     rename_i h1
     rw [if_neg h1] at h
     split
     · split <;> simp
     ·
      rename_i h2
      rw [if_neg h2] at h
      have := numL_in t (i + 1) h
      simpa using this
end
section
variable {l : List UInt8} {v n : Nat} {s : ByteArray} {kind most : Int}
end
/-- What the reader gives, where it stands at a. -/
def gotF (s : Nat × Int) (kind most : Int) (m : List UInt8) : Fld := if s.2 = 0 ∧ (rdF kind most m).1 = 0 then (rdF kind most m).2.1 else Fld.none kind most
section
variable {kind most : Int} {m : List UInt8} {st : Nat × Int}
theorem rk_1 (k1 : kind = 1) : rdF kind most m = ((numL 0 m).1, { Fld.none kind most with i := zagI ((numL 0 m).2.1 : Nat) }, (numL 0 m).2.2) := by
  unfold rdF; rw [if_neg (by omega), if_neg (by omega), if_pos k1]
end
end Go.Proofs.YthpknpfhpkkheaaGreatDoor

namespace Go.Proofs.YthpknpfhpkkheaaGreatDoor
open Go Go.RowKit
set_option linter.unusedVariables false
set_option linter.unusedSimpArgs false
set_option maxRecDepth 100000
theorem check_op {x : Ins} (h : checkI x = 0) : ∃ k, opIx x.op = some k := by
  cases hk : opIx x.op with
  | some k => exact ⟨k, rfl⟩
  | none =>
    have e : takesF x.op = (false, false, false) := by unfold takesF; rw [hk]
    unfold checkI checkT at h
    rw [e] at h
    exact absurd h (by simp)
theorem all_ok : ∀ {z : List Ins}, allI z = 0 → ∀ x ∈ z, checkI x = 0
  | [], _, x, hx => by simp at hx
  | y :: z, h, x, hx => by
    unfold allI at h
    by_cases hy : checkI y ≠ 0
    · rw [if_pos hy] at h; exact absurd h hy
    ·
     rw [if_neg hy] at h
     rcases List.mem_cons.1 hx with rfl | hx
     · exact Classical.not_not.1 hy
     · exact all_ok h x hx
def insT (k : Nat) (o : ByteArray × Bool × Bool) (x : Ins) : List UInt8 := varL k ++ ((if o.2.1 then varL (zigI x.n).toNat else []) ++ (if o.2.2 then textL x.s else []))
def insB (x : Ins) : List UInt8 := match opIx x.op with
  | some k => insT k (opT.getD k default) x
  | none => []
def putL (z : List Ins) : List UInt8 := varL z.length ++ z.flatMap insB
theorem zig_le {n : Int} (h : -9223372036854775808 ≤ n ∧ n ≤ 9223372036854775807) : (zigI n).toNat ≤ 18446744073709551615 := by
  unfold zigI; split <;> omega
theorem insT_len {k : Nat} {o : ByteArray × Bool × Bool} {x : Ins} (hk : k < 42) (hn : -9223372036854775808 ≤ x.n ∧ x.n ≤ 9223372036854775807) (hs : x.s.size ≤ 1000) : (insT k o x).length ≤ 1030 := by
  have h1 : (varL k).length ≤ 10 := varL_ten (by omega)
  have h2 : (varL (zigI x.n).toNat).length ≤ 10 := varL_ten (zig_le hn)
  have h3 : (varL x.s.size).length ≤ 10 := varL_ten (by omega)
  have h4 : (bs x.s).length = x.s.size := bs_length _
  unfold insT textL
  rw [List.length_append, List.length_append]
  have e1 : (if o.2.1 then varL (zigI x.n).toNat else []).length ≤ 10 := by split; exact h2; exact Nat.zero_le _
  have e2 : (if o.2.2 then varL x.s.size ++ bs x.s else []).length ≤ 1010 := by
    split
    · rw [List.length_append, h4]; omega
    · exact Nat.zero_le _
  omega
theorem put_len : ∀ (z : List Ins), (∀ x ∈ z, (-9223372036854775808 ≤ x.n ∧ x.n ≤ 9223372036854775807) ∧ x.s.size ≤ 1000) → (z.flatMap insB).length ≤ 1030 * z.length
  | [], _ => by simp
  | x :: z, h => by
    have ih := put_len z fun y hy => h y (List.mem_cons_of_mem _ hy)
    have hx := h x List.mem_cons_self
    have hb : (insB x).length ≤ 1030 := by
      unfold insB
      cases hk : opIx x.op with
      | none => exact Nat.zero_le _
      | some k => exact insT_len (opIx_lt hk) hx.1 hx.2
    rw [List.flatMap_cons, List.length_append, List.length_cons]; omega
theorem gv_ops {base : Nat} {w : World} (h : Gv base w) {k : Nat} (hk : k < 42) : ∀ (j : Nat) (u : Value), (opr (opT.getD k default))[j]? = some u → w.cell? ⟨0, k * 3 + j, none⟩ = some u := gv_row h hk
theorem put_take {z : List Ins} {i : Nat} (h : i < z.length) : (z.take (i + 1)).flatMap insB = (z.take i).flatMap insB ++ insB z[i] := by
  rw [List.take_succ_eq_append_getElem h, List.flatMap_append]; simp
theorem insB_of {x : Ins} {k : Nat} (h : opIx x.op = some k) : insB x = insT k (opT.getD k default) x := by unfold insB; rw [h]
theorem WrAt.down {base base' b : Nat} {w : World} {A : List UInt8} (h : WrAt base w b A) (hb : base' ≤ base) : WrAt base' w b A := by
  obtain ⟨v, h1, h2, h3⟩ := h
  exact ⟨v, h1, Nat.le_trans hb h2, h3.mono hb⟩
end Go.Proofs.YthpknpfhpkkheaaGreatDoor

namespace Go.Proofs.YthpknpfhpkkheaaGreatDoor
open Go Go.RowKit
set_option linter.unusedVariables false
set_option linter.unusedSimpArgs false
set_option maxRecDepth 100000
/-- What has been read: where the reader stands, whether all was right, what was read. -/
structure Tk where
  st : Nat × Int
  ok : Bool
  out : List Ins
def takeO (l : List UInt8) (o : ByteArray × Bool × Bool) (t : Tk) : Tk :=
  let st1 := ns l t.st
  let n : Int := if o.2.1 then zagI (nm l st1 : Nat) else 0
  let st2 := if o.2.1 then ns l st1 else st1
  let s : List UInt8 := if o.2.2 then tx l st2 else []
  let st3 := if o.2.2 then ts l st2 else st2
  { st := st3, ok := t.ok, out := t.out ++ [⟨o.1, n, sb s⟩] }
def take1 (l : List UInt8) (t : Tk) : Tk := if 42 ≤ nm l t.st then { t with st := ns l t.st, ok := false } else takeO l (opT.getD (nm l t.st) default) t
def takeN (l : List UInt8) : Nat → Tk → Tk
  | 0, t => t
  | n + 1, t => take1 l (takeN l n t)
def cn (l : List UInt8) (st : Nat × Int) : Nat := got st (countR 200 (l.drop st.1)).1 (countR 200 (l.drop st.1)).2.1 0
def cs (l : List UInt8) (st : Nat × Int) : Nat × Int := nxt st (countR 200 (l.drop st.1)).1 (countR 200 (l.drop st.1)).2.2
def takeA (l : List UInt8) (st : Nat × Int) : Tk := takeN l (cn l st) ⟨cs l st, true, []⟩
/-- What Take hands out. -/
def takeL (l : List UInt8) (st : Nat × Int) : List Ins := if (takeA l st).st.2 ≠ 0 ∨ (takeA l st).ok = false ∨ allI (takeA l st).out ≠ 0 then [] else (takeA l st).out
theorem cn_le (l : List UInt8) (st : Nat × Int) : cn l st ≤ 200 := by
  unfold cn got
  split
  ·
   rename_i h
   have h2 := h.2
   unfold countR at h2 ⊢
   split at h2
   · exact absurd h2 (by decide)
   ·
    rename_i hn
    rw [if_neg hn]
    show _ ≤ 200
    omega
  · exact Nat.zero_le _
theorem takeO_len (l : List UInt8) (o : ByteArray × Bool × Bool) (t : Tk) : (takeO l o t).out.length = t.out.length + 1 := by unfold takeO; simp
theorem take1_len (l : List UInt8) (t : Tk) : (take1 l t).out.length ≤ t.out.length + 1 := by
  unfold take1
  split
  · exact Nat.le_succ _
  · rw [takeO_len]; exact Nat.le_refl _
theorem takeN_len (l : List UInt8) (t : Tk) : ∀ n, (takeN l n t).out.length ≤ t.out.length + n
  | 0 => Nat.le_refl _
  | n + 1 => by have := takeN_len l t n; have := take1_len l (takeN l n t); show (take1 l _).out.length ≤ _; omega
theorem ins_info : (Tryz.prog.info? 54).map (fun i => (i.zero, i.size, i.bytes)) = some (some (.agg #[.string ByteArray.empty, .int .i64 0, .string ByteArray.empty]), 3, 40) := rfl
theorem rd_num (base b : Nat) (v : Value) (l : List UInt8) (st : Nat × Int) (w0 : World) (hR : RdAt base w0 b v l st.1 st.2) (hb : base ≤ w0.heap.size) : Does Tryz.prog 145 #[.pointer (some ⟨b, 0, none⟩)] w0 (fun r w' => r = .int .u64 (nm l st : Int) ∧ RdAt base w' b v l (ns l st).1 (ns l st).2 ∧ Ch (fun j => j = b) w0 w') := rdnum_walk base b v l st.1 st.2 w0 hR hb
theorem rd_int (base b : Nat) (v : Value) (l : List UInt8) (st : Nat × Int) (w0 : World) (hR : RdAt base w0 b v l st.1 st.2) (hb : base ≤ w0.heap.size) : Does Tryz.prog 146 #[.pointer (some ⟨b, 0, none⟩)] w0 (fun r w' => r = .int .i64 (zagI (nm l st : Nat)) ∧ RdAt base w' b v l (ns l st).1 (ns l st).2 ∧ Ch (fun j => j = b) w0 w') := rdint_walk base b v l st.1 st.2 w0 hR hb
theorem rd_text (base b : Nat) (v : Value) (l : List UInt8) (st : Nat × Int) (w0 : World) (hR : RdAt base w0 b v l st.1 st.2) (hT : Tabs base w0) (hb : base ≤ w0.heap.size) : Does Tryz.prog 87 #[.pointer (some ⟨b, 0, none⟩)] w0 (fun r w' => r = .string (sb (tx l st)) ∧ RdAt base w' b v l (ts l st).1 (ts l st).2 ∧ Ch (fun j => j = b) w0 w') := rdtext_walk base b v l st.1 st.2 w0 hR hT hb
theorem rd_count (base b : Nat) (v : Value) (l : List UInt8) (st : Nat × Int) (w0 : World) (hR : RdAt base w0 b v l st.1 st.2) (hb : base ≤ w0.heap.size) : Does Tryz.prog 110 #[.pointer (some ⟨b, 0, none⟩), .int .i64 200] w0 (fun r w' => r = .int .i64 (cn l st : Int) ∧ RdAt base w' b v l (cs l st).1 (cs l st).2 ∧ Ch (fun j => j = b) w0 w') := rdcount_walk base b v l st.1 st.2 200 w0 hR (by decide) hb
theorem textR_le (m : List UInt8) : (textR m).2.1.length ≤ 4096 := by
  unfold textR
  split
  · exact Nat.zero_le _
  ·
   split
   · exact Nat.zero_le _
   ·
    split
    · exact Nat.zero_le _
    ·
     split
     ·
      show (List.take _ _).length ≤ _
      rw [List.length_take]; omega
     · exact Nat.zero_le _
theorem tx_le (l : List UInt8) (st : Nat × Int) : (tx l st).length ≤ 4096 := by
  unfold tx got
  split
  · exact textR_le _
  · exact Nat.zero_le _
theorem takeN_sz (l : List UInt8) (t : Tk) (h : ∀ x ∈ t.out, x.s.size ≤ 4096) : ∀ n, ∀ x ∈ (takeN l n t).out, x.s.size ≤ 4096
  | 0 => h
  | n + 1 => by
    have ih := takeN_sz l t h n
    intro x hx
    have hx' : x ∈ (take1 l (takeN l n t)).out := hx
    unfold take1 at hx'
    split at hx'
    · exact ih x hx'
    ·
     unfold takeO at hx'
     rcases List.mem_append.1 hx' with hx' | hx'
     · exact ih x hx'
     ·
      rw [List.mem_singleton] at hx'
      rw [hx']
      show (sb _).size ≤ _
      rw [sb_size]
      split
      · exact tx_le _ _
      · exact Nat.zero_le _
end Go.Proofs.YthpknpfhpkkheaaGreatDoor

namespace Go.Proofs.YthpknpfhpkkheaaGreatDoor
open Go Go.RowKit
set_option linter.unusedVariables false
set_option linter.unusedSimpArgs false
set_option maxRecDepth 100000
/-- An instruction's rest: the number or the text, ahead of what is behind. -/
def rRest (o : ByteArray × Bool × Bool) (m : List UInt8) : Option (Ins × List UInt8) :=
  if rtI (o.2.1, o.2.2, true) = 1 then (if (rdF 1 0 m).1 ≠ 0 then none else some (⟨o.1, (rdF 1 0 m).2.1.i, { data := #[] }⟩, m.drop (rdF 1 0 m).2.2))
  else if rtI (o.2.1, o.2.2, true) = 2 then (if (rdF 4 0 m).1 ≠ 0 then none else some (⟨o.1, 0, (rdF 4 0 m).2.1.s⟩, m.drop (rdF 4 0 m).2.2))
  else some (⟨o.1, 0, { data := #[] }⟩, m)
def rChk : Option (Ins × List UInt8) → Option (Ins × List UInt8)
  | none => none
  | some (x, m) => if checkI x ≠ 0 then none else some (x, m)
def rItem (m : List UInt8) : Option (Ins × List UInt8) :=
  if (numL 0 m).1 ≠ 0 ∨ 42 ≤ (numL 0 m).2.1 then none else rChk (rRest (opT.getD (numL 0 m).2.1 default) (m.drop (numL 0 m).2.2))
def rItems : Nat → List UInt8 → List Ins → Option (List Ins × List UInt8)
  | 0, m, out => some (out, m)
  | n + 1, m, out => match rItem m with
    | none => none
    | some (x, m') => rItems n m' (out ++ [x])
/-- What the document takes of bytes. -/
def rTake (l : List UInt8) : Option (List Ins × List UInt8) := if (countR 200 l).1 ≠ 0 then none else rItems (countR 200 l).2.1 (l.drop (countR 200 l).2.2) []
theorem rItem_bad {m : List UInt8} (h : (numL 0 m).1 ≠ 0 ∨ 42 ≤ (numL 0 m).2.1) : rItem m = none := if_pos h
theorem rItem_on {m : List UInt8} (h : ¬ ((numL 0 m).1 ≠ 0 ∨ 42 ≤ (numL 0 m).2.1)) : rItem m = rChk (rRest (opT.getD (numL 0 m).2.1 default) (m.drop (numL 0 m).2.2)) := if_neg h
end Go.Proofs.YthpknpfhpkkheaaGreatDoor

namespace Go.Proofs.YthpknpfhpkkheaaGreatDoor
open Go Go.RowKit
set_option linter.unusedVariables false
set_option linter.unusedSimpArgs false
set_option maxRecDepth 100000
theorem take1_bad {l : List UInt8} {t : Tk} (h : 42 ≤ nm l t.st) : take1 l t = { t with st := ns l t.st, ok := false } := if_pos h
theorem take1_ok {l : List UInt8} {t : Tk} (h : ¬ 42 ≤ nm l t.st) : take1 l t = takeO l (opT.getD (nm l t.st) default) t := if_neg h
theorem RdAt.st {base b q : Nat} {w w' : World} {v : Value} {l : List UInt8} {a : Nat} {e : Int} (h : RdAt base w b v l a e) (c : Ch (fun j => j = q) w w') (h1 : q ≠ b) (h2 : ∀ i, v.ownBlock = some i → i ≠ q) : RdAt base w' b v l a e :=
  ⟨h.bk.ch c (fun e => h1 e.symm), h.hb, h.ow.to (fun i hi => Sm.step c (fun _ e => h2 i hi e) (Sm.refl _ _)), h.ha, h.hl⟩
theorem RdAt.chg {base b : Nat} {w w' : World} {X : Nat → Prop} {v : Value} {l : List UInt8} {a : Nat} {e : Int} (h : RdAt base w b v l a e) (c : Ch X w w') (h1 : ¬ X b) (h2 : ∀ i, v.ownBlock = some i → ¬ X i) : RdAt base w' b v l a e :=
  ⟨h.bk.ch c h1, h.hb, h.ow.to (fun i hi => Sm.step c (fun _ => h2 i hi) (Sm.refl _ _)), h.ha, h.hl⟩
set_option maxHeartbeats 4000000 in
theorem itake_walk (base b : Nat) (v : Value) (l : List UInt8) (a : Nat) (e : Int) (w0 : World) (hG : Gv base w0) (hR : RdAt base w0 b v l a e) (hb : base ≤ w0.heap.size) : Does Tryz.prog 95 #[.pointer (some ⟨b, 0, none⟩)] w0 (fun r w' => ∃ v', r = v' ∧ Ow w' w0.heap.size 54 3 v' (takeL l (a, e)).length (cellsI (takeL l (a, e))) ∧ RdAt base w' b v l (takeA l (a, e)).st.1 (takeA l (a, e)).st.2 ∧ Ch (fun j => j = b) w0 w') := by
  have hbl := hR.bk.lt
  have hvl : ∀ i, v.ownBlock = some i → i < w0.heap.size := fun i hi => hR.ow.lt hi
  have hcn := cn_le l (a, e)
  have hGc := fun W (c : Ch (fun j => j = b) w0 W) => hG.ch c hb (fun i (hi : i = b) => by rw [hi]; exact hR.hb)
  refine fn_of (n := 58) (args := [.pointer (some ⟨b, 0, none⟩)]) Tryz.func95 rfl rfl rfl (W_seq (W_region (L_r (r_av) (L_nil (W_seq (W_region (L_r (r_av) (L_nil ?_))))))))
  refine W_seq (W_region (L_r (r_ab rfl) (L_nil (W_seq (W_seq (W_region (L_r (r_mp rfl) ?_)))))))
  refine L_call (.plain rfl) rfl rfl (r_call Tryz.func110 rfl rfl rfl (by rfl)) (rd_count base b v l (a, e) _ hR hb) ?_
  rintro v10 w1 ⟨rfl, hR1, c1⟩
  have hz1 := c1.size
  refine L_r (r_mi rfl) (L_nil (W_block ?_))
  refine W_loopF [0, 10] (fun mz_ f W => ∃ (i : Nat) (t : Tk) (vo : Value), f 11 = .int .i64 i ∧ f 3 = vo ∧ f 4 = .bool t.ok ∧ (i ≤ cn l (a, e) ∧ t = takeN l i ⟨cs l (a, e), true, []⟩ ∧ RdAt base W b v l t.st.1 t.st.2 ∧ Ow W w0.heap.size 54 3 vo t.out.length (cellsI t.out) ∧ Ch (fun j => j = b) w0 W) ∧ mz_ = cn l (a, e) - i) ?_ ?_
  ·
   refine ⟨_, 0, ⟨cs l (a, e), true, []⟩, .slice none 0 0, rfl, rfl, rfl, ?_, rfl⟩
   exact ⟨by omega, rfl, hR1, Ow.nil _ _ _ _, Ch.au⟩
  rintro m0 g0 w2 ⟨i, t, vo, hf11, hf3, hf4, hR0, rfl⟩
  refine W_as 11 hf11 rfl ?_
  refine W_as 3 hf3 rfl ?_
  refine W_as 4 hf4 rfl ?_
  clear hf11 hf3 hf4
  obtain ⟨hi, ht, hRt, hO, hch⟩ := hR0
  have hz := hch.size
  have htl := takeN_len l ⟨cs l (a, e), true, []⟩ i
  rw [← ht] at htl
  have htl' : t.out.length ≤ i := by simpa using htl
  obtain ⟨q, hq⟩ : ∃ x, x = vo := ⟨_, rfl⟩
  obtain ⟨tg, htg⟩ : ∃ x, x = t := ⟨_, rfl⟩
  refine W_seq (W_region (L_r (r_lss rfl rfl) (L_nil (W_seq ?_))))
  refine W_if rfl (fun h12 => ?_) (fun h12 => ?_)
  ·
   refine W_skip ?_
   refine W_cutF [0, 10, 11] (fun f W => ∃ (t2 : Tk) (vo2 : Value), f 3 = vo2 ∧ f 4 = .bool t2.ok ∧ (t2 = take1 l t ∧ RdAt base W b v l t2.st.1 t2.st.2 ∧ Ow W w0.heap.size 54 3 vo2 t2.out.length (cellsI t2.out) ∧ Ch (fun j => j = b) w0 W)) ?_ ?_
   ·
    refine W_block (W_seq ?_)
    have hgw := fun W (c : Ch (fun j => j = b) w0 W) => hGc W c
    refine W_region (L_r (r_mp rfl) ?_)
    refine L_call (.plain rfl) rfl rfl (r_call Tryz.func145 rfl rfl rfl (by rfl)) (rd_num base b v l t.st _ hRt (by omega)) ?_
    rintro v14 w3 ⟨rfl, hR2, c3⟩
    have hz3 := c3.size
    refine L_r (r_ai rfl) (L_nil (W_seq (W_seq (W_region (L_r (r_mi rfl) (L_r (r_geq rfl rfl) (L_nil ?_)))))))
    refine W_if rfl (fun h16 => ?_) (fun h16 => ?_)
    ·
     clear htg
     obtain ⟨tg, htg⟩ : ∃ x, x = ({ t with st := ns l t.st, ok := false } : Tk) := ⟨_, rfl⟩
     have hte : tg = take1 l t := by rw [htg, take1_bad (by omega)]
     have hRg : True := trivial
     refine W_seq (W_region (L_r (r_ab rfl) (L_nil ?_)))
     refine W_exit ?_
     repeat (first | refine blk_hit ?_ | refine blk_miss rfl ?_)
     refine ⟨⟨fx2, fx2, fx2, trivial⟩, tg, q, (by exact hq.symm), (by rw [htg]; rfl), ?_⟩
     subst hq
     first
     | (refine ⟨hte, ?_, ?_, Ch.au⟩
        · rw [htg]; exact hR2
        · rw [htg]; exact Ow.au)
     | (refine ⟨hte, ?_, ?_, Ch.au⟩
        · have h := (hR6.nw (w' := w12) Ch.au).chg c13 (fun e => by have := ow_base hO5 e; omega) (fun j hj e => by have := hvl j hj; have := ow_base hO5 e; omega)
          rw [htg]; subst hst3; exact h
        · rw [htg]
          show Ow _ _ _ _ _ (t.out ++ [_]).length (cellsI (t.out ++ [_]))
          rw [List.length_append, cellsI_append]
          exact ho39)
    ·
     have hk42 : nm l t.st < 42 := by omega
     have hgo := fun W (c : Ch (fun j => j = b) w0 W) => gv_ops (hGc W c) hk42
     have htk := take1_ok (l := l) (t := t) (by omega)
     generalize opT.getD (nm l t.st) default = o at hgo htk
     obtain ⟨st1, hst1⟩ : ∃ x, x = ns l t.st := ⟨_, rfl⟩
     rw [← hst1] at hR2
     refine W_skip (W_seq (W_region (L_r (r_mi rfl) ?_)))
     refine L_r (r_idxarr Tryz.underlying159 (show _ = some 3 from rfl) rfl rfl (by omega) (by omega) (by conv => lhs; (try simp only [Nat.mul_one, Nat.zero_add, Int.toNat_natCast, Int.toNat_zero, Int.reduceToNat, Nat.reduceMul, Nat.reduceAdd]))) ?_
     refine L_r (r_fieldb Tryz.underlying158 rfl (show _ = some 1 from rfl) rfl rfl rfl) ?_
     refine L_r (r_loadG rfl rfl (by first | exact hgo _ Ch.au 0 _ rfl | exact hgo _ Ch.au 1 _ rfl | exact hgo _ Ch.au 2 _ rfl)) ?_
     refine L_r (r_build1 (pl := [(0, 1), (1, 1), (2, 1)]) (vs := [(0, .string _)]) (cells := [_, _, _]) Tryz.underlying54 rfl rfl (by rfl) rfl (by rfl)) ?_
     refine L_new (.plain rfl) rfl rfl (r_alloca rfl) (fun w4 b6 hb6 eb4 hs4 c4 => ?_)
     refine L_storerow (.plain rfl) rfl rfl Bk.au (by first | rfl | (simp; done) | assumption) (by first | rfl | assumption) (by first | rfl | (simp [Value.oneCell']; done) | assumption) (fun w5 hb5 hs5 c5 => (L_nil (W_seq (W_seq ?_))))
     have hn6 : vo.ownBlock ≠ some b6 := fun e => by have := hO.lt e; omega
     refine W_region (L_r (r_mi rfl) ?_)
     refine L_r (r_idxarr Tryz.underlying159 (show _ = some 3 from rfl) rfl rfl (by omega) (by omega) (by conv => lhs; (try simp only [Nat.mul_one, Nat.zero_add, Int.toNat_natCast, Int.toNat_zero, Int.reduceToNat, Nat.reduceMul, Nat.reduceAdd]))) ?_
     refine L_r (r_fieldb Tryz.underlying158 rfl (show _ = some 1 from rfl) rfl rfl rfl) ?_
     refine L_r (r_loadG rfl rfl (by first | exact hgo _ Ch.au 0 _ rfl | exact hgo _ Ch.au 1 _ rfl | exact hgo _ Ch.au 2 _ rfl)) (L_nil ?_)
     refine W_endF [0, 3, 4, 5, 6, 10, 11] (fun f W => True ∧ (RdAt base W b v l (if o.2.1 then ns l st1 else st1).1 (if o.2.1 then ns l st1 else st1).2 ∧ Bk W b6 #[.string o.1, .int .i64 (if o.2.1 then zagI (nm l st1 : Nat) else 0), .string { data := #[] }] 54 ∧ Ow W w0.heap.size 54 3 vo t.out.length (cellsI t.out) ∧ Ch (fun j => j = b) w0 W)) ?_ ?_
     ·
      refine W_bool rfl (fun h25 => ?_) (fun h25 => ?_)
      ·
       refine W_region (L_r (r_mp rfl) ?_)
       refine L_call (.plain rfl) rfl rfl (r_call Tryz.func146 rfl rfl rfl (by rfl)) (rd_int base b v l st1 _ (hR2.nw Ch.au) (by omega)) ?_
       rintro v27 w6 ⟨rfl, hR3, c6⟩
       have hz6 := c6.size
       refine L_r (r_fieldb Tryz.underlying54 rfl (show _ = some 1 from rfl) rfl rfl (show _ = 1 from rfl)) ?_
       refine L_set (.plain rfl) rfl Bk.au (r_store (v := .int _ _) rfl rfl rfl rfl Bk.au (by first | decide | (simp; done) | omega)) (fun w7 hb7 hs7 c7 => ?_)
       try simp only [List.setIfInBounds_toArray, List.set_cons_zero, List.set_cons_succ] at hb7
       have hR3q := hR3.st (w' := w7) (q := b6) Ch.au (by omega) (fun i hi => by have := hvl i hi; omega)
       refine L_nil ?_
       refine ⟨⟨fx2, fx2, fx2, fx2, fx2, fx2, fx2, trivial⟩, trivial, ?_⟩
       first
       | (rw [if_pos (by assumption), if_pos (by assumption)]; exact ⟨hR3q, Bk.au, Ow.au, Ch.au⟩)
       | (rw [if_neg (by simpa using h25), if_neg (by simpa using h25)]; exact ⟨hR2.nw Ch.au, Bk.au, Ow.au, Ch.au⟩)
      ·
       refine W_skip ?_
       refine ⟨⟨fx2, fx2, fx2, fx2, fx2, fx2, fx2, trivial⟩, trivial, ?_⟩
       first
       | (rw [if_pos (by assumption), if_pos (by assumption)]; exact ⟨hR3q, Bk.au, Ow.au, Ch.au⟩)
       | (rw [if_neg (by simpa using h25), if_neg (by simpa using h25)]; exact ⟨hR2.nw Ch.au, Bk.au, Ow.au, Ch.au⟩)
     rintro gct25 w8 ⟨-, hCt25⟩
     obtain ⟨hR4, hb6', hO4, hc4⟩ := hCt25
     clear hO
     have hz4 := hc4.size
     obtain ⟨st2, hst2⟩ : ∃ x, x = (if o.2.1 then ns l st1 else st1) := ⟨_, rfl⟩
     obtain ⟨n, hn⟩ : ∃ x, x = (if o.2.1 then zagI (nm l st1 : Nat) else 0) := ⟨_, rfl⟩
     rw [← hst2] at hR4
     rw [← hn] at hb6'
     refine W_seq (W_seq (W_region (L_r (r_mi rfl) ?_)))
     refine L_r (r_idxarr Tryz.underlying159 (show _ = some 3 from rfl) rfl rfl (by omega) (by omega) (by conv => lhs; (try simp only [Nat.mul_one, Nat.zero_add, Int.toNat_natCast, Int.toNat_zero, Int.reduceToNat, Nat.reduceMul, Nat.reduceAdd]))) ?_
     refine L_r (r_fieldb Tryz.underlying158 rfl (show _ = some 1 from rfl) rfl rfl rfl) ?_
     refine L_r (r_loadG rfl rfl (by first | exact hgo _ Ch.au 0 _ rfl | exact hgo _ Ch.au 1 _ rfl | exact hgo _ Ch.au 2 _ rfl)) (L_nil ?_)
     refine W_endF [0, 3, 4, 6, 10, 11] (fun f W => True ∧ (RdAt base W b v l (if o.2.2 then ts l st2 else st2).1 (if o.2.2 then ts l st2 else st2).2 ∧ Bk W b6 #[.string o.1, .int .i64 n, .string (sb (if o.2.2 then tx l st2 else []))] 54 ∧ Ow W w0.heap.size 54 3 vo t.out.length (cellsI t.out) ∧ Ch (fun j => j = b) w0 W)) ?_ ?_
     ·
      refine W_bool rfl (fun h32 => ?_) (fun h32 => ?_)
      ·
       refine W_region (L_r (r_mp rfl) ?_)
       refine L_call (.plain rfl) rfl rfl (r_call Tryz.func87 rfl rfl rfl (by rfl)) (rd_text base b v l st2 _ (hR4.nw Ch.au) (hGc _ Ch.au).tab (by omega)) ?_
       rintro v34 w9 ⟨rfl, hR5, c9⟩
       have hz9 := c9.size
       refine L_r (r_fieldb Tryz.underlying54 rfl (show _ = some 1 from rfl) rfl rfl (show _ = 2 from rfl)) ?_
       refine L_set (.plain rfl) rfl Bk.au (r_store (v := .string _) rfl rfl rfl rfl Bk.au (by first | decide | (simp; done) | omega)) (fun w10 hb10 hs10 c10 => ?_)
       try simp only [List.setIfInBounds_toArray, List.set_cons_zero, List.set_cons_succ] at hb10
       have hR5q := hR5.st (w' := w10) (q := b6) Ch.au (by omega) (fun i hi => by have := hvl i hi; omega)
       refine L_nil ?_
       refine ⟨⟨fx2, fx2, fx2, fx2, fx2, fx2, trivial⟩, trivial, ?_⟩
       first
       | (rw [if_pos (by assumption), if_pos (by assumption)]; exact ⟨hR5q, Bk.au, Ow.au, Ch.au⟩)
       | (rw [if_neg (by simpa using h32), if_neg (by simpa using h32)]; exact ⟨hR4.nw Ch.au, Bk.au, Ow.au, Ch.au⟩)
      ·
       refine W_skip ?_
       refine ⟨⟨fx2, fx2, fx2, fx2, fx2, fx2, trivial⟩, trivial, ?_⟩
       first
       | (rw [if_pos (by assumption), if_pos (by assumption)]; exact ⟨hR5q, Bk.au, Ow.au, Ch.au⟩)
       | (rw [if_neg (by simpa using h32), if_neg (by simpa using h32)]; exact ⟨hR4.nw Ch.au, Bk.au, Ow.au, Ch.au⟩)
     rintro gct32 w11 ⟨-, hCt32⟩
     obtain ⟨hR6, hb6q, hO5, hc5⟩ := hCt32
     clear hO4
     have hz5 := hc5.size
     obtain ⟨st3, hst3⟩ : ∃ x, x = (if o.2.2 then ts l st2 else st2) := ⟨_, rfl⟩
     obtain ⟨s, hs⟩ : ∃ x, x = sb (if o.2.2 then tx l st2 else []) := ⟨_, rfl⟩
     rw [← hst3] at hR6
     rw [← hs] at hb6q
     refine W_region (L_r (r_mv) ?_)
     refine L_r (r_loadrow Tryz.underlying54 rfl rfl Bk.au (by first | rfl | assumption)) ?_
     refine L_buildrow [[_, _, _]] Tryz.underlying40 (show _ = some (some _, 3, _) from rfl) rfl rfl (.plain rfl) rfl (by rfl) (by rfl) rfl (fun b38 w12 hb38 hv38 eb12 hs12 c12 => ?_)
     simp only [List.flatten_cons, List.flatten_nil, List.append_nil, List.cons_append, List.nil_append] at hb38 hv38
     refine L_apow Tryz.underlying40 ins_info rfl (by decide) (.plain rfl) rfl (by conv => lhs; whnf) (by conv => lhs; whnf) Ow.au Sl.au (by intro y hy; simp at hy; rcases hy with rfl | rfl | rfl <;> rfl) (by unfold maxLen; omega) (by omega) (by omega) (fun v39 w13 ho39 c13 hob39 => ?_)
     have hz13 := c13.size
     clear hq htg
     obtain ⟨q, hq⟩ : ∃ x, x = v39 := ⟨_, rfl⟩
     obtain ⟨tg, htg⟩ : ∃ x, x = ({ st := st3, ok := t.ok, out := t.out ++ [⟨o.1, n, s⟩] } : Tk) := ⟨_, rfl⟩
     have hte : tg = take1 l t := by { rw [htg, htk, hst3, hs, hn, hst2, hst1]; rfl }
     refine L_r (r_av) (L_nil ?_)
     refine ⟨⟨fx2, fx2, fx2, trivial⟩, tg, q, (by exact hq.symm), (by rw [htg]; rfl), ?_⟩
     subst hq
     first
     | (refine ⟨hte, ?_, ?_, Ch.au⟩
        · rw [htg]; exact hR2
        · rw [htg]; exact Ow.au)
     | (refine ⟨hte, ?_, ?_, Ch.au⟩
        · have h := (hR6.nw (w' := w12) Ch.au).chg c13 (fun e => by have := ow_base hO5 e; omega) (fun j hj e => by have := hvl j hj; have := ow_base hO5 e; omega)
          rw [htg]; subst hst3; exact h
        · rw [htg]
          show Ow _ _ _ _ _ (t.out ++ [_]).length (cellsI (t.out ++ [_]))
          rw [List.length_append, cellsI_append]
          exact ho39)
   rintro gcb1 w14 ⟨t2, vo2, hf3, hf4, hCb1⟩
   refine W_as 3 hf3 rfl ?_
   refine W_as 4 hf4 rfl ?_
   clear hf3 hf4
   obtain ⟨ht2, hRb, hOb, hcb⟩ := hCb1
   refine W_region ?_
   refine L_r (r_add rfl rfl (by first | exact wr_i64 (by omega) | rfl)) (L_r (r_mi rfl) (L_nil ?_))
   refine ⟨⟨fx2, fx2, trivial⟩, _, ?_, i + 1, t2, vo2, rfl, rfl, rfl, ?_, rfl⟩
   · omega
   exact ⟨by omega, by rw [ht2, ht]; rfl, hRb, hOb, hcb⟩
  ·
   refine W_exit ?_
   repeat (first | refine blk_hit ?_ | refine blk_miss rfl ?_)
   refine W_seq (W_seq (W_region (L_r (r_mp rfl) ?_)))
   refine L_call (.plain rfl) rfl rfl (r_call Tryz.func99 rfl rfl rfl (by rfl)) (err_walk base b v l t.st.1 t.st.2 _ (hRt.nw Ch.au)) ?_
   rintro v43 w15 ⟨rfl, c15⟩
   have hz15 := c15.size
   refine L_r (r_mv) (L_r (r_ext2_0 rfl) (L_r (r_ext2_1 rfl) (L_r (r_ai rfl) (L_r (r_ai rfl) (L_nil (W_seq (W_region (L_r (r_mi rfl) ?_))))))))
   refine L_r (r_neq rfl rfl) (L_r (r_mb rfl) ?_)
   refine L_case (d := 48) rfl (fun h48 => ?_) (fun h48 => ?_)
   ·
    refine L_ps (L_ps (L_r (r_pt rfl rfl) (L_r (r_mb rfl) (L_ps (L_ps (L_ps (L_r (r_pt rfl rfl) (L_nil ?_))))))))
    refine W_true rfl (W_seq (W_region (L_r (r_av) (L_nil (W_ret ?_)))))
    refine ret1 rfl (by conv => lhs; whnf) ?_
    have hi' : i = cn l (a, e) := by omega
    have hA : takeA l (a, e) = t := by unfold takeA; rw [← hi', ← ht]
    unfold takeL
    rw [hA]
    by_cases hc : t.st.2 ≠ 0 ∨ t.ok = false ∨ allI t.out ≠ 0
    ·
     rw [if_pos hc]
     first
     | exact ⟨_, rfl, Ow.nil _ _ _ _, hRt.nw Ch.au, Ch.au⟩
     | (exfalso; rcases hc with k | k | k; exact h48 k; (rw [k] at h52; simp at h52); exact h56 k)
    ·
     rw [if_neg hc]
     first
     | (exfalso; apply hc; first | exact .inl (by assumption) | exact .inr (.inl (by simpa using h52)) | exact .inr (.inr (by assumption)))
     | exact ⟨_, rfl, Ow.au, hRt.nw Ch.au, Ch.au⟩
   ·
    refine L_g (r_mb rfl) ?_
    refine L_g (r_not rfl) (L_r (r_pf rfl rfl) (L_r (r_mb rfl) ?_))
    refine L_caseb (d := 52) rfl (fun h52 => ?_) (fun h52 => ?_)
    ·
     refine L_ps (L_ps (L_ps (L_r (r_pt rfl rfl) (L_nil ?_))))
     refine W_true rfl (W_seq (W_region (L_r (r_av) (L_nil (W_ret ?_)))))
     refine ret1 rfl (by conv => lhs; whnf) ?_
     have hi' : i = cn l (a, e) := by omega
     have hA : takeA l (a, e) = t := by unfold takeA; rw [← hi', ← ht]
     unfold takeL
     rw [hA]
     by_cases hc : t.st.2 ≠ 0 ∨ t.ok = false ∨ allI t.out ≠ 0
     ·
      rw [if_pos hc]
      first
      | exact ⟨_, rfl, Ow.nil _ _ _ _, hRt.nw Ch.au, Ch.au⟩
      | (exfalso; rcases hc with k | k | k; exact h48 k; (rw [k] at h52; simp at h52); exact h56 k)
     ·
      rw [if_neg hc]
      first
      | (exfalso; apply hc; first | exact .inl (by assumption) | exact .inr (.inl (by simpa using h52)) | exact .inr (.inr (by assumption)))
      | exact ⟨_, rfl, Ow.au, hRt.nw Ch.au, Ch.au⟩
    ·
     refine L_g (r_mv) ?_
     refine L_call (.yes 6 false rfl rfl) rfl rfl (r_call Tryz.func147 rfl rfl rfl (by rfl)) (all_ins_walk base vo t.out _ (hGc _ Ch.au) (by omega) Sl.au (by omega) (fun x hx => by rw [ht] at hx; have := takeN_sz l ⟨cs l (a, e), true, []⟩ (fun x hx => absurd hx (by simp)) i x hx; omega)) ?_
     rintro v54 w16 ⟨rfl, c16⟩
     have hz16 := c16.size
     refine L_g (r_neq rfl rfl) (L_r (r_pf rfl rfl) (L_nil ?_))
     refine W_if rfl (fun h56 => ?_) (fun h56 => ?_)
     ·
      refine W_seq (W_region (L_r (r_av) (L_nil (W_ret ?_))))
      refine ret1 rfl (by conv => lhs; whnf) ?_
      have hi' : i = cn l (a, e) := by omega
      have hA : takeA l (a, e) = t := by unfold takeA; rw [← hi', ← ht]
      unfold takeL
      rw [hA]
      by_cases hc : t.st.2 ≠ 0 ∨ t.ok = false ∨ allI t.out ≠ 0
      ·
       rw [if_pos hc]
       first
       | exact ⟨_, rfl, Ow.nil _ _ _ _, hRt.nw Ch.au, Ch.au⟩
       | (exfalso; rcases hc with k | k | k; exact h48 k; (rw [k] at h52; simp at h52); exact h56 k)
      ·
       rw [if_neg hc]
       first
       | (exfalso; apply hc; first | exact .inl (by assumption) | exact .inr (.inl (by simpa using h52)) | exact .inr (.inr (by assumption)))
       | exact ⟨_, rfl, Ow.au, hRt.nw Ch.au, Ch.au⟩
     ·
      refine W_skip (W_seq (W_region (L_r (r_mv) (L_r (r_av) (L_nil (W_ret ?_))))))
      refine ret1 rfl (by conv => lhs; whnf) ?_
      have hi' : i = cn l (a, e) := by omega
      have hA : takeA l (a, e) = t := by unfold takeA; rw [← hi', ← ht]
      unfold takeL
      rw [hA]
      by_cases hc : t.st.2 ≠ 0 ∨ t.ok = false ∨ allI t.out ≠ 0
      ·
       rw [if_pos hc]
       first
       | exact ⟨_, rfl, Ow.nil _ _ _ _, hRt.nw Ch.au, Ch.au⟩
       | (exfalso; rcases hc with k | k | k; exact h48 k; (rw [k] at h52; simp at h52); exact h56 k)
      ·
       rw [if_neg hc]
       first
       | (exfalso; apply hc; first | exact .inl (by assumption) | exact .inr (.inl (by simpa using h52)) | exact .inr (.inr (by assumption)))
       | exact ⟨_, rfl, Ow.au, hRt.nw Ch.au, Ch.au⟩
end Go.Proofs.YthpknpfhpkkheaaGreatDoor

namespace Go.Proofs.YthpknpfhpkkheaaGreatDoor
open Go Go.RowKit
set_option linter.unusedVariables false
set_option linter.unusedSimpArgs false
set_option maxRecDepth 100000
def endE (l : List UInt8) (st : Nat × Int) : Int := if st.2 = 0 ∧ st.1 ≠ l.length then 13 else st.2
/-- Are bytes instructions? -/
def getIs (l : List UInt8) : Prop := endE l (takeA l (0, 0)).st = 0 ∧ ¬ (takeL l (0, 0) = [] ∧ l ≠ [0])
instance (l : List UInt8) : Decidable (getIs l) := inferInstanceAs (Decidable (_ ∧ ¬ (_ ∧ _)))
theorem rd_end (base b : Nat) (v : Value) (l : List UInt8) (st : Nat × Int) (w0 : World) (hR : RdAt base w0 b v l st.1 st.2) : Does Tryz.prog 35 #[.pointer (some ⟨b, 0, none⟩)] w0 (fun r w' => ∃ a, r = .tuple #[.int .i64 a, .int .i64 (endE l st)] ∧ Nw w0 w') :=
  (rdend_walk base b v l st.1 st.2 w0 hR).mono (by rintro r w' ⟨rfl, c⟩; exact ⟨_, rfl, c⟩)
end Go.Proofs.YthpknpfhpkkheaaGreatDoor

namespace Go.Proofs.YthpknpfhpkkheaaGreatDoor
open Go Go.RowKit
set_option linter.unusedVariables false
set_option linter.unusedSimpArgs false
set_option maxRecDepth 100000
def badT (t : Tk) : Prop := t.st.2 ≠ 0 ∨ t.ok = false ∨ allI t.out ≠ 0
theorem allI_app : ∀ (a b : List Ins), allI (a ++ b) = if allI a ≠ 0 then allI a else allI b
  | [], b => by simp [allI]
  | x :: a, b => by
    have ih := allI_app a b
    show (if checkI x ≠ 0 then checkI x else allI (a ++ b)) = if (if checkI x ≠ 0 then checkI x else allI a) ≠ 0 then (if checkI x ≠ 0 then checkI x else allI a) else allI b
    by_cases h : checkI x ≠ 0
    · rw [if_pos h, if_pos h, if_pos h]
    · rw [if_neg h, if_neg h, ih]
theorem nxt_stuck {st : Nat × Int} (h : st.2 ≠ 0) (e : Int) (k : Nat) : nxt st e k = st := if_pos h
theorem takeO_stuck {l : List UInt8} {o : ByteArray × Bool × Bool} {t : Tk} (h : (ns l t.st).2 ≠ 0) : (takeO l o t).st.2 ≠ 0 := by
  unfold takeO
  have h1 : ns l (ns l t.st) = ns l t.st := nxt_stuck h _ _
  have h2 : ts l (ns l t.st) = ns l t.st := nxt_stuck h _ _
  show (if o.2.2 then ts l (if o.2.1 then ns l (ns l t.st) else ns l t.st) else (if o.2.1 then ns l (ns l t.st) else ns l t.st)).2 ≠ 0
  rw [h1]
  split <;> split <;> first | exact h | (rw [h2]; exact h)
theorem bad_step {l : List UInt8} {t : Tk} (h : badT t) : badT (take1 l t) := by
  unfold take1
  rcases h with h | h | h
  ·
   have h1 : ns l t.st = t.st := nxt_stuck h _ _
   split
   · left; show (ns l t.st).2 ≠ 0; rw [h1]; exact h
   · exact .inl (takeO_stuck (by rw [h1]; exact h))
  ·
   split
   · exact .inr (.inl rfl)
   · exact .inr (.inl h)
  ·
   split
   · exact .inr (.inl rfl)
   ·
    refine .inr (.inr ?_)
    show allI (t.out ++ [_]) ≠ 0
    rw [allI_app, if_pos h]; exact h
theorem takeN_head (l : List UInt8) (t : Tk) : ∀ n, takeN l (n + 1) t = takeN l n (take1 l t)
  | 0 => rfl
  | n + 1 => by show take1 l (takeN l (n + 1) t) = _; rw [takeN_head l t n]; rfl
theorem bad_steps {l : List UInt8} {t : Tk} (h : badT t) : ∀ n, badT (takeN l n t)
  | 0 => h
  | n + 1 => bad_step (bad_steps h n)
/-- All went well so far. -/
structure Good (l : List UInt8) (t : Tk) : Prop where
  e : t.st.2 = 0
  ok : t.ok = true
  le : t.st.1 ≤ l.length
  all : allI t.out = 0
theorem ns_ok0 {l : List UInt8} {st : Nat × Int} (h : st.2 = 0) (hn : (numL 0 (l.drop st.1)).1 = 0) : ns l st = (st.1 + (numL 0 (l.drop st.1)).2.2, 0) ∧ nm l st = (numL 0 (l.drop st.1)).2.1 := by
  obtain ⟨a, e⟩ := st
  simp only at h hn
  subst h
  unfold ns nm
  simp only
  rw [nxt_ok hn, got_ok hn, hn]
  exact ⟨rfl, rfl⟩
theorem ns_bad0 {l : List UInt8} {st : Nat × Int} (h : st.2 = 0) (hn : (numL 0 (l.drop st.1)).1 ≠ 0) : (ns l st).2 ≠ 0 := by
  obtain ⟨a, e⟩ := st
  simp only at h hn
  subst h
  unfold ns
  simp only
  rw [nxt_err hn]
  exact hn
theorem ts_ok0 {l : List UInt8} {st : Nat × Int} (h : st.2 = 0) (hn : (textR (l.drop st.1)).1 = 0) : ts l st = (st.1 + (textR (l.drop st.1)).2.2, 0) ∧ tx l st = (textR (l.drop st.1)).2.1 := by
  obtain ⟨a, e⟩ := st
  simp only at h hn
  subst h
  unfold ts tx
  simp only
  rw [nxt_ok hn, got_ok hn, hn]
  exact ⟨rfl, rfl⟩
theorem ts_bad0 {l : List UInt8} {st : Nat × Int} (h : st.2 = 0) (hn : (textR (l.drop st.1)).1 ≠ 0) : (ts l st).2 ≠ 0 := by
  obtain ⟨a, e⟩ := st
  simp only at h hn
  subst h
  unfold ts
  simp only
  rw [nxt_err hn]
  exact hn
theorem textR_in {m : List UInt8} (h : (textR m).1 = 0) : (textR m).2.2 ≤ m.length := by
  have hn : (numL 0 m).1 = 0 := by
    apply Classical.byContradiction
    intro hn
    rw [textR_err hn] at h
    exact hn h
  have hi := numL_in m 0 hn
  unfold textR at h ⊢
  rw [if_neg (by rw [hn]; decide)] at h ⊢
  split at h
  · exact absurd h (by decide)
  ·
   rename_i h1
   rw [if_neg h1]
   split at h
   · exact absurd h (by decide)
   ·
    rename_i h2
    rw [if_neg h2]
    split at h
    ·
     rename_i h3
     rw [if_pos h3]
     show _ + _ ≤ _
     omega
    · exact absurd h (by decide)
theorem rd4 (m : List UInt8) : rdF 4 0 m = ((textR m).1, { Fld.none 4 0 with s := sb (textR m).2.1 }, (textR m).2.2) := rd_t (by decide) (by decide) (by decide) (by decide)
theorem rd1 (m : List UInt8) : rdF 1 0 m = ((numL 0 m).1, { Fld.none 1 0 with i := zagI ((numL 0 m).2.1 : Nat) }, (numL 0 m).2.2) := rk_1 rfl
theorem allI_one (x : Ins) : allI [x] = checkI x := by
  show (if checkI x ≠ 0 then checkI x else 0) = _
  split
  · rfl
  · rename_i h; exact (Classical.not_not.1 h).symm
theorem take1_out {l : List UInt8} {t t' : Tk} {x : Ins} {a : Nat} (hg : Good l t) (ht : t' = ⟨(a, 0), t.ok, t.out ++ [x]⟩) (ha : a ≤ l.length) :
    (∀ y m, rChk (some (x, l.drop a)) = some (y, m) → Good l t' ∧ t'.out = t.out ++ [y] ∧ l.drop t'.st.1 = m) ∧ (rChk (some (x, l.drop a)) = none → badT t') := by
  subst ht
  unfold rChk
  simp only
  constructor
  ·
   intro y m h
   split at h
   · cases h
   ·
    rename_i hc
    injection h with h
    injection h with h1 h2
    subst h1 h2
    refine ⟨⟨rfl, hg.ok, ha, ?_⟩, rfl, rfl⟩
    show allI (t.out ++ [x]) = 0
    rw [allI_app, if_neg (by rw [hg.all]; decide), allI_one]
    exact Classical.not_not.1 hc
  ·
   intro h
   split at h
   ·
    rename_i hc
    refine .inr (.inr ?_)
    show allI (t.out ++ [x]) ≠ 0
    rw [allI_app, if_neg (by rw [hg.all]; decide), allI_one]
    exact hc
   · cases h
theorem item_step {l : List UInt8} {t : Tk} (hg : Good l t) :
    (∀ x m, rItem (l.drop t.st.1) = some (x, m) → Good l (take1 l t) ∧ (take1 l t).out = t.out ++ [x] ∧ l.drop (take1 l t).st.1 = m) ∧ (rItem (l.drop t.st.1) = none → badT (take1 l t)) := by
  have hge := hg.e
  have hgl := hg.le
  by_cases hn : (numL 0 (l.drop t.st.1)).1 = 0
  ·
   obtain ⟨h1, h2⟩ := ns_ok0 hge hn
   have hin := numL_in _ 0 hn
   rw [List.length_drop] at hin
   by_cases h42 : 42 ≤ (numL 0 (l.drop t.st.1)).2.1
   ·
    rw [rItem_bad (.inr h42)]
    refine ⟨fun x m h => (by cases h), fun _ => ?_⟩
    have e : take1 l t = { t with st := ns l t.st, ok := false } := if_pos (by rw [h2]; exact h42)
    rw [e]
    exact .inr (.inl rfl)
   ·
    rw [rItem_on (fun h => by rcases h with h | h; exact h hn; exact h42 h)]
    have e : take1 l t = takeO l (opT.getD (numL 0 (l.drop t.st.1)).2.1 default) t := by rw [← h2]; exact if_neg (by rw [h2]; exact h42)
    rw [e]
    have hk : (numL 0 (l.drop t.st.1)).2.1 < 42 := by omega
    have hone := List.all_eq_true.1 tk_oneB _ (List.mem_range.2 hk)
    generalize opT.getD (numL 0 (l.drop t.st.1)).2.1 default = o at hone ⊢
    obtain ⟨on, oa, ob⟩ := o
    obtain ⟨b, hb⟩ : ∃ b, b = t.st.1 + (numL 0 (l.drop t.st.1)).2.2 := ⟨_, rfl⟩
    rw [← hb] at h1
    have hbl : b ≤ l.length := by omega
    rw [List.drop_drop, ← hb]
    unfold takeO rRest
    rw [h1, rd1, rd4]
    simp only at hone ⊢
    cases oa with
    | true =>
      cases ob with
      | true => exact absurd hone (by decide)
      | false =>
        rw [if_pos (show rtI (true, false, true) = 1 from rfl)]
        by_cases hn2 : (numL 0 (l.drop b)).1 = 0
        ·
         rw [if_neg (by simpa using hn2), List.drop_drop]
         obtain ⟨k1, k2⟩ := ns_ok0 (l := l) (st := (b, 0)) rfl hn2
         have hin2 := numL_in _ 0 hn2
         rw [List.length_drop] at hin2
         refine take1_out hg (a := b + (numL 0 (l.drop b)).2.2) ?_ (by omega)
         simp only [if_true, Bool.false_eq_true, if_false]
         rw [k1, k2]; rfl
        ·
         rw [if_pos hn2]
         refine ⟨fun x m h => (by cases h), fun _ => .inl ?_⟩
         exact ns_bad0 (l := l) (st := (b, 0)) rfl hn2
    | false =>
      cases ob with
      | true =>
        rw [if_neg (show ¬ rtI (false, true, true) = 1 by decide), if_pos (show rtI (false, true, true) = 2 from rfl)]
        by_cases hn2 : (textR (l.drop b)).1 = 0
        ·
         rw [if_neg (by simpa using hn2), List.drop_drop]
         obtain ⟨k1, k2⟩ := ts_ok0 (l := l) (st := (b, 0)) rfl hn2
         have hin2 := textR_in hn2
         rw [List.length_drop] at hin2
         refine take1_out hg (a := b + (textR (l.drop b)).2.2) ?_ (by omega)
         simp only [if_true, Bool.false_eq_true, if_false]
         rw [k1, k2]
        ·
         rw [if_pos hn2]
         refine ⟨fun x m h => (by cases h), fun _ => .inl ?_⟩
         exact ts_bad0 (l := l) (st := (b, 0)) rfl hn2
      | false =>
        rw [if_neg (show ¬ rtI (false, false, true) = 1 by decide), if_neg (show ¬ rtI (false, false, true) = 2 by decide)]
        refine take1_out hg (a := b) ?_ hbl
        simp only [Bool.false_eq_true, if_false]
        rfl
  ·
   rw [rItem_bad (.inl hn)]
   refine ⟨fun x m h => (by cases h), fun _ => .inl ?_⟩
   unfold take1
   split
   · exact ns_bad0 hge hn
   · exact takeO_stuck (ns_bad0 hge hn)
theorem items_sync {l : List UInt8} : ∀ (n : Nat) (t : Tk), Good l t →
    (∀ z m, rItems n (l.drop t.st.1) t.out = some (z, m) → Good l (takeN l n t) ∧ (takeN l n t).out = z ∧ l.drop (takeN l n t).st.1 = m) ∧ (rItems n (l.drop t.st.1) t.out = none → badT (takeN l n t))
  | 0, t, hg => ⟨fun z m h => by injection h with h; injection h with h1 h2; exact ⟨hg, h1, h2⟩, fun h => by cases h⟩
  | n + 1, t, hg => by
    obtain ⟨i1, i2⟩ := item_step hg
    rw [takeN_head]
    unfold rItems
    cases hi : rItem (l.drop t.st.1) with
    | none => exact ⟨fun z m h => (by cases h), fun _ => bad_steps (i2 hi) n⟩
    | some p =>
      obtain ⟨x, m'⟩ := p
      obtain ⟨k1, k2, k3⟩ := i1 x m' hi
      have ih := items_sync n (take1 l t) k1
      rw [k2, k3] at ih
      exact ih
end Go.Proofs.YthpknpfhpkkheaaGreatDoor

namespace Go.Proofs.YthpknpfhpkkheaaGreatDoor
open Go Go.RowKit
set_option linter.unusedVariables false
set_option linter.unusedSimpArgs false
set_option maxRecDepth 100000
/-- A byte of a name, of a kind, of a member. -/
def gb (c : UInt8) : Prop := c.toNat < 128 ∧ c.toNat ≠ 10
instance (c : UInt8) : Decidable (gb c) := inferInstanceAs (Decidable (_ ∧ _))
theorem name_gb {s : ByteArray} (h : nameP s) : ∀ c ∈ bs s, gb c := by
  obtain ⟨_, h2, _, h4⟩ := h
  intro b hb
  obtain ⟨i, hi, rfl⟩ := List.mem_iff_getElem.1 hb
  have hi2 : i < s.size := by rw [bs_length] at hi; exact hi
  have h5 := h4 i hi2
  have e : bat s i = (bs s)[i]'hi := by show (bs s).getD i 0 = _; rw [List.getD_eq_getElem?_getD, List.getElem?_eq_getElem hi, Option.getD_some]
  rw [e] at h5
  unfold nameC greatC smallC digitC at h5
  unfold gb
  omega
theorem plain_gb {s : ByteArray} (h : plainP s) : ∀ c ∈ bs s, gb c := by
  have key : ∀ l : List UInt8, (l.all fun c => decide (c.toNat < 128 ∧ c.toNat ≠ 10)) = true → ∀ c ∈ l, gb c := fun l h c hc => of_decide_eq_true (List.all_eq_true.1 h c hc)
  rcases h with rfl | rfl | rfl <;> exact key _ (by decide)
theorem ends_split {l : List UInt8} (h : endsA l = true) : l = l.take (l.length - 2) ++ [91, 93] := by
  have h' : ([91, 93] : List UInt8).isSuffixOf l = true := h
  obtain ⟨t, ht⟩ := List.isSuffixOf_iff_suffix.1 h'
  rw [← ht]; simp
theorem base_gb : ∀ (k : Nat) (l : List UInt8), l.length = k → (∀ c ∈ (baseF l).1, gb c) → ∀ c ∈ l, gb c := by
  intro k
  induction k using Nat.strongRecOn with
  | ind k ih =>
    intro l hl hb
    cases h : endsA l with
    | false => rw [baseF_no h] at hb; exact hb
    | true =>
      have h2 := endsA_le h
      rw [baseF_yes h] at hb
      have h3 := ih (l.length - 2) (by omega) (l.take (l.length - 2)) (by rw [List.length_take]; omega) hb
      intro c hc
      rw [ends_split h] at hc
      rcases List.mem_append.1 hc with hc | hc
      · exact h3 c hc
      ·
       simp at hc
       rcases hc with rfl | rfl <;> exact ⟨by decide, by decide⟩
theorem right_gb {s : ByteArray} (h : rightK s) : ∀ c ∈ bs s, gb c := by
  refine base_gb _ (bs s) rfl ?_
  have e : (baseF (bs s)).1 = bs (baseS s) := by unfold baseS; rw [bs_sb]
  rw [e]
  rcases h.2 with h | h
  · exact plain_gb h
  · exact name_gb h.1
theorem cut_cases (c : UInt8) (l : List UInt8) : (∃ p t, l = p ++ c :: t ∧ (∀ x ∈ p, x ≠ c) ∧ Lib.cut l [c] = (p, t, true)) ∨ ((∀ x ∈ l, x ≠ c) ∧ Lib.cut l [c] = (l, [], false)) := by
  unfold Lib.cut
  rw [Lib.index_one]
  have hge := Lib.indexByte_ge l c
  by_cases h : 0 ≤ Lib.indexByte l c
  ·
   left
   rw [if_pos h]
   obtain ⟨o, ho⟩ : ∃ o : Nat, Lib.indexByte l c = o := ⟨(Lib.indexByte l c).toNat, by omega⟩
   obtain ⟨h1, h2⟩ := Lib.indexByte_some ho
   obtain ⟨hol, hoe⟩ := List.getElem?_eq_some_iff.1 h1
   refine ⟨l.take o, l.drop (o + 1), ?_, ?_, ?_⟩
   · conv => lhs; rw [← List.take_append_drop o l, List.drop_eq_getElem_cons hol, hoe]
   ·
    intro x hx e
    obtain ⟨j, hj, hje⟩ := List.mem_iff_getElem.1 hx
    rw [List.length_take] at hj
    have := h2 j (by omega)
    apply this
    rw [List.getElem_take] at hje
    rw [List.getElem?_eq_getElem (by omega), hje, e]
   · rw [ho]; rfl
  ·
   right
   rw [if_neg h]
   refine ⟨fun x hx e => ?_, rfl⟩
   obtain ⟨j, hj, hje⟩ := List.mem_iff_getElem.1 hx
   have := Lib.indexByte_none (show Lib.indexByte l c = -1 by omega) j
   apply this
   rw [List.getElem?_eq_getElem hj, hje, e]
theorem parts_gb {s : ByteArray} (h : (partsO s).isSome = true) : ∀ c ∈ bs s, gb c := by
  unfold partsO at h
  split at h
  ·
   rename_i hc
   obtain ⟨h1, h2, h3⟩ := hc
   rcases cut_cases 46 (bs s) with ⟨p, t, e1, _, e2⟩ | ⟨_, e2⟩
   ·
    rw [e2] at h2 h3
    have k1 := name_gb h2.1
    have k2 := name_gb h3.1
    rw [bs_sb] at k1 k2
    intro c hc
    rw [e1] at hc
    rcases List.mem_append.1 hc with hc | hc
    · exact k1 c hc
    ·
     rcases List.mem_cons.1 hc with rfl | hc
     · exact ⟨by decide, by decide⟩
     · exact k2 c hc
   · rw [e2] at h1; cases h1
  · cases h
theorem gb_valid {s : ByteArray} (h : ∀ c ∈ bs s, gb c) : Lib.validD (bs s) = true := by
  rw [Lib.validD_ascii s.size (bs s) (fun b hb => (h b (List.mem_of_mem_take hb)).1), List.drop_of_length_le (by rw [bs_length]; omega)]
  rfl
theorem text_good {o s : ByteArray} (h : textP o s) : Lib.validD (bs s) = true ∧ ∀ c ∈ bs s, c ≠ (10 : UInt8) := by
  have key : (∀ c ∈ bs s, gb c) → Lib.validD (bs s) = true ∧ ∀ c ∈ bs s, c ≠ (10 : UInt8) := fun k => ⟨gb_valid k, fun c hc e => (k c hc).2 (by rw [e]; rfl)⟩
  unfold textP at h
  split at h
  ·
   refine ⟨h.2.1, fun c hc e => ?_⟩
   have hn : Lib.contains (bs s) [10] = false := h.2.2
   unfold Lib.contains at hn
   rw [Lib.index_one] at hn
   have hI : ¬ 0 ≤ Lib.indexByte (bs s) 10 := of_decide_eq_false hn
   have hge := Lib.indexByte_ge (bs s) 10
   obtain ⟨j, hj, hje⟩ := List.mem_iff_getElem.1 hc
   have := Lib.indexByte_none (show Lib.indexByte (bs s) 10 = -1 by omega) j
   apply this
   rw [List.getElem?_eq_getElem hj, hje, e]
  ·
   split at h
   · exact key (name_gb h.1)
   ·
    split at h
    · exact key (right_gb h.1)
    ·
     split at h
     · exact key (right_gb h.1)
     · exact key (parts_gb h)
end Go.Proofs.YthpknpfhpkkheaaGreatDoor

namespace Go.Proofs.YthpknpfhpkkheaaGreatDoor
open Go Go.RowKit
set_option linter.unusedVariables false
set_option linter.unusedSimpArgs false
set_option maxRecDepth 100000
theorem zag_zig (n : Int) : zagI (zigI n) = n := by
  unfold zagI zigI
  split <;> split <;> omega
/-- What an instruction that may be has. -/
theorem ok_parts {x : Ins} (h : checkI x = 0) : ∃ k o, k < 42 ∧ opIx x.op = some k ∧ opT.getD k default = o ∧ o.1 = x.op ∧ takesF x.op = (o.2.1, o.2.2, true) ∧ ¬ (o.2.1 = true ∧ o.2.2 = true) ∧ (o.2.1 = false → x.n = 0) ∧ (o.2.2 = false → x.s = { data := #[] }) ∧ (o.2.2 = true → textP x.op x.s) := by
  obtain ⟨k, hk⟩ := check_op h
  have hk42 := opIx_lt hk
  have ht : takesF x.op = ((opT.getD k default).2.1, (opT.getD k default).2.2, true) := by unfold takesF; rw [hk]
  have hone := List.all_eq_true.1 tk_oneB k (List.mem_range.2 hk42)
  have hn : (opT.getD k default).1 = x.op := by
    obtain ⟨hkl, hks⟩ := opIx_some hk
    rw [List.getD_eq_getElem?_getD, List.getElem?_eq_getElem hkl]; exact hks
  unfold checkI at h
  rw [ht] at h
  refine ⟨k, _, hk42, hk, rfl, hn, ht, ?_, ?_, ?_, ?_⟩
  ·
   rintro ⟨h1, h2⟩
   rw [h1, h2] at hone; exact absurd hone (by decide)
  ·
   intro h1
   unfold checkT at h
   simp only [h1] at h
   apply Classical.byContradiction
   intro hc
   rw [if_neg (by decide), if_pos (.inl ⟨trivial, hc⟩)] at h
   exact absurd h (by decide)
  ·
   intro h1
   unfold checkT at h
   simp only [h1] at h
   apply Classical.byContradiction
   intro hc
   rw [if_neg (by decide), if_pos (.inr (.inl ⟨trivial, hc⟩))] at h
   exact absurd h (by decide)
  ·
   intro h1
   unfold checkT at h
   simp only [h1] at h
   apply Classical.byContradiction
   intro hc
   rw [if_neg (by decide), if_pos (.inr (.inr ⟨trivial, hc⟩))] at h
   exact absurd h (by decide)
theorem item_put {x : Ins} (h : checkI x = 0) (hn : -9223372036854775808 ≤ x.n ∧ x.n ≤ 9223372036854775807) (hs : x.s.size ≤ 4096) (rest : List UInt8) : rItem (insB x ++ rest) = some (x, rest) := by
  obtain ⟨k, o, hk, hko, ho, hon, _, hone, h1, h2, h3⟩ := ok_parts h
  rw [insB_of hko]
  unfold insT
  rw [List.append_assoc]
  have e := numL_v k ((if (opT.getD k default).2.1 = true then varL (zigI x.n).toNat else []) ++ (if (opT.getD k default).2.2 = true then textL x.s else []) ++ rest) (by omega)
  rw [rItem_on (by rw [e]; intro hh; rcases hh with hh | hh; exact hh rfl; have : 42 ≤ k := hh; omega), e]
  simp only
  rw [List.drop_left, ho]
  have hx : ∀ m, rChk (some (x, m)) = some (x, m) := fun m => if_neg (by rw [h]; decide)
  unfold rRest
  obtain ⟨on, oa, ob⟩ := o
  simp only at hon h1 h2 h3 hone ⊢
  subst hon
  cases oa with
  | true =>
    cases ob with
    | true => exact absurd ⟨rfl, rfl⟩ hone
    | false =>
      rw [if_pos (show rtI (true, false, true) = 1 from rfl)]
      simp only [if_true, Bool.false_eq_true, if_false, List.append_nil]
      have e2 := numL_v (zigI x.n).toNat rest (zig_le hn)
      have e3 := rd1 (varL (zigI x.n).toNat ++ rest)
      rw [e2] at e3
      rw [e3, if_neg (fun hh => hh rfl)]
      simp only
      rw [List.drop_left]
      have e4 : zagI (((zigI x.n).toNat : Nat) : Int) = x.n := by
        have : 0 ≤ zigI x.n := by unfold zigI; split <;> omega
        rw [Int.toNat_of_nonneg this, zag_zig]
      have e5 : (⟨x.op, zagI (((zigI x.n).toNat : Nat) : Int), { data := #[] }⟩ : Ins) = x := by rw [e4, ← h2 rfl]
      rw [← hx rest]
      exact congrArg (fun y => rChk (some (y, rest))) e5
  | false =>
    cases ob with
    | true =>
      rw [if_neg (show ¬ rtI (false, true, true) = 1 by decide), if_pos (show rtI (false, true, true) = 2 from rfl)]
      simp only [if_true, Bool.false_eq_true, if_false, List.nil_append]
      have e3 := rd4 (textL x.s ++ rest)
      rw [textR_of x.s rest (by omega), if_neg (by omega), if_pos (text_good (h3 rfl)).1] at e3
      rw [e3, if_neg (fun hh => hh rfl)]
      simp only
      rw [List.drop_left]
      have e5 : (⟨x.op, 0, sb (bs x.s)⟩ : Ins) = x := by rw [sb_bs, ← h1 rfl]
      rw [← hx rest]
      exact congrArg (fun y => rChk (some (y, rest))) e5
    | false =>
      rw [if_neg (show ¬ rtI (false, false, true) = 1 by decide), if_neg (show ¬ rtI (false, false, true) = 2 by decide)]
      simp only [Bool.false_eq_true, if_false, List.nil_append]
      have e5 : (⟨x.op, 0, { data := #[] }⟩ : Ins) = x := by rw [← h1 rfl, ← h2 rfl]
      rw [← hx rest]
      exact congrArg (fun y => rChk (some (y, rest))) e5
theorem items_put : ∀ (z : List Ins) (rest : List UInt8) (out : List Ins), allI z = 0 → (∀ x ∈ z, (-9223372036854775808 ≤ x.n ∧ x.n ≤ 9223372036854775807) ∧ x.s.size ≤ 1000) → rItems z.length (z.flatMap insB ++ rest) out = some (out ++ z, rest)
  | [], rest, out, _, _ => by simp [rItems]
  | x :: z, rest, out, ha, hs => by
    have hx : checkI x = 0 := all_ok ha x List.mem_cons_self
    have hz : allI z = 0 := by
      have : (if checkI x ≠ 0 then checkI x else allI z) = 0 := ha
      rw [if_neg (by rw [hx]; decide)] at this; exact this
    have h1 := hs x List.mem_cons_self
    rw [List.flatMap_cons, List.append_assoc, List.length_cons]
    unfold rItems
    rw [item_put hx h1.1 (by have := h1.2; omega)]
    simp only
    rw [items_put z rest _ hz fun y hy => hs y (List.mem_cons_of_mem _ hy)]
    simp
theorem insB_pos {x : Ins} (h : checkI x = 0) : 0 < (insB x).length := by
  obtain ⟨k, hk⟩ := check_op h
  rw [insB_of hk]
  unfold insT
  have := varL_pos k
  rw [List.length_append]; omega
theorem put_min : ∀ (z : List Ins), allI z = 0 → z.length ≤ (z.flatMap insB).length
  | [], _ => Nat.le_refl _
  | x :: z, ha => by
    have hx : checkI x = 0 := all_ok ha x List.mem_cons_self
    have hz : allI z = 0 := by
      have : (if checkI x ≠ 0 then checkI x else allI z) = 0 := ha
      rw [if_neg (by rw [hx]; decide)] at this; exact this
    have := put_min z hz
    have := insB_pos hx
    rw [List.flatMap_cons, List.length_append, List.length_cons]; omega
theorem take_put {z : List Ins} (ha : allI z = 0) (hs : ∀ x ∈ z, (-9223372036854775808 ≤ x.n ∧ x.n ≤ 9223372036854775807) ∧ x.s.size ≤ 1000) (hl : z.length ≤ 200) (rest : List UInt8) : rTake (putL z ++ rest) = some (z, rest) := by
  unfold putL
  rw [List.append_assoc]
  have e := numL_v z.length (z.flatMap insB ++ rest) (by omega)
  have hm := put_min z ha
  have hc : countR 200 (varL z.length ++ (z.flatMap insB ++ rest)) = (0, z.length, (varL z.length).length) := by
    unfold countR
    rw [e, if_neg]
    rintro ⟨_, h | h | h⟩
    · exact absurd h (by decide)
    · have : (200 : Int) < (z.length : Nat) := h; omega
    ·
     have h' : (varL z.length ++ (z.flatMap insB ++ rest)).length - (varL z.length).length < z.length := h
     rw [List.length_append, List.length_append] at h'; omega
  unfold rTake
  rw [hc, if_neg (fun hh => hh rfl)]
  simp only
  rw [List.drop_left]
  exact items_put z rest [] ha hs
end Go.Proofs.YthpknpfhpkkheaaGreatDoor

namespace Go.Proofs.YthpknpfhpkkheaaGreatDoor
open Go Go.RowKit
set_option linter.unusedVariables false
set_option linter.unusedSimpArgs false
set_option maxRecDepth 100000
/-! ### which classes may be -/
def catP (n : Nat) (x : Cat) : Prop := 0 ≤ x.fr ∧ x.fr < x.tt ∧ x.tt ≤ n ∧ 0 ≤ x.aa ∧ x.aa < n ∧ classP x.cls
instance (n : Nat) (x : Cat) : Decidable (catP n x) := inferInstanceAs (Decidable (_ ∧ _))
def bodyP (m : Mth) : Prop := if m.abs = true then m.locals = 0 ∧ m.code = [] ∧ m.cats = [] else 0 < m.code.length ∧ (m.params.length : Int) < m.locals ∧ allI m.code = 0 ∧ ∀ x ∈ m.cats, catP m.code.length x
def mthP (m : Mth) : Prop := memP m.name ∧ (∀ p ∈ m.params, rightK p) ∧ (m.result = { data := #[] } ∨ rightK m.result) ∧ bodyP m
def manyM (m : Mth) : Prop := 32 < m.params.length ∨ 32 < m.cats.length ∨ 200 < m.code.length ∨ 64 < m.locals
instance (m : Mth) : Decidable (manyM m) := inferInstanceAs (Decidable (_ ∨ _))
def manyP (c : Cls) : Prop := (∃ m ∈ c.ms, manyM m) ∨ 32 < c.like.length ∨ 32 < c.fields.length ∨ 32 < c.ms.length
abbrev objB : ByteArray := { data := #[79, 98, 106, 101, 99, 116] }
structure clsP (c : Cls) : Prop where
  name : classP c.name
  super : classP c.super
  ne : c.name ≠ c.super
  like : ∀ l ∈ c.like, classP l ∧ l ≠ c.name
  likeN : c.like.Nodup
  fields : ∀ f ∈ c.fields, memP f.name ∧ rightK f.kind
  fieldsN : (c.fields.map CF.name).Nodup
  ms : ∀ m ∈ c.ms, mthP m
  msN : (c.ms.map Mth.name).Nodup
  ifc : c.ifc = true → c.abs = true ∧ c.super = objB ∧ c.fields = [] ∧ ∀ m ∈ c.ms, m.abs = true
  fin : ¬ (c.abs = true ∧ c.fin = true)
  abs : ∀ m ∈ c.ms, m.abs = true → c.abs = true
open Classical in
noncomputable def checkCls (c : Cls) : Int := if manyP c then 51 else if clsP c then 0 else 50
/-! ### bytes -/
def txtsL (l : List ByteArray) : List UInt8 := varL l.length ++ l.flatMap textL
def fldB (f : CF) : List UInt8 := textL f.name ++ (textL f.kind ++ flagL f.tr)
def catB (x : Cat) : List UInt8 := varL x.fr.toNat ++ (varL x.tt.toNat ++ (varL x.aa.toNat ++ textL x.cls))
def bodyB (m : Mth) : List UInt8 := if m.abs = true then [] else varL m.locals.toNat ++ (putL m.code ++ (varL m.cats.length ++ m.cats.flatMap catB))
def mthB (m : Mth) : List UInt8 := textL m.name ++ (txtsL m.params ++ (textL m.result ++ (flagL m.abs ++ bodyB m)))
def clsB (c : Cls) : List UInt8 := textL c.name ++ (textL c.super ++ (txtsL c.like ++ (flagL c.ifc ++ (flagL c.abs ++ (flagL c.fin ++ (varL c.fields.length ++ (c.fields.flatMap fldB ++ (varL c.ms.length ++ c.ms.flatMap mthB))))))))
/-! ### reading -/
abbrev St := Nat × Int
def fg (l : List UInt8) (st : St) : Bool := got st (flagR (l.drop st.1)).1 (flagR (l.drop st.1)).2.1 false
def fs (l : List UInt8) (st : St) : St := nxt st (flagR (l.drop st.1)).1 (flagR (l.drop st.1)).2.2
def kn (most : Int) (l : List UInt8) (st : St) : Nat := got st (countR most (l.drop st.1)).1 (countR most (l.drop st.1)).2.1 0
def ks (most : Int) (l : List UInt8) (st : St) : St := nxt st (countR most (l.drop st.1)).1 (countR most (l.drop st.1)).2.2
def rep {T : Type} (f : List UInt8 → St → T × St) (l : List UInt8) : Nat → St → List T × St
  | 0, st => ([], st)
  | n + 1, st => ((f l st).1 :: (rep f l n (f l st).2).1, (rep f l n (f l st).2).2)
def rList {T : Type} (most : Int) (f : List UInt8 → St → T × St) (l : List UInt8) (st : St) : List T × St := rep f l (kn most l st) (ks most l st)
def rTx (l : List UInt8) (st : St) : ByteArray × St := (sb (tx l st), ts l st)
def sm (l : List UInt8) (st : St) : Int := (min (nm l st) 1048576 : Nat)
def rFld (l : List UInt8) (st : St) : CF × St := (⟨sb (tx l st), sb (tx l (ts l st)), fg l (ts l (ts l st))⟩, fs l (ts l (ts l st)))
def rCat (l : List UInt8) (st : St) : Cat × St := (⟨sm l st, sm l (ns l st), sm l (ns l (ns l st)), sb (tx l (ns l (ns l (ns l st))))⟩, ts l (ns l (ns l (ns l st))))
/-- A method: its head; what is behind, if it isn't abstract. -/
def m1 (l : List UInt8) (st : St) : St := (rList 32 rTx l (ts l st)).2
def m2 (l : List UInt8) (st : St) : St := ts l (m1 l st)
def m3 (l : List UInt8) (st : St) : St := fs l (m2 l st)
def m4 (l : List UInt8) (st : St) : St := ns l (m3 l st)
def m5 (l : List UInt8) (st : St) : St := (takeA l (m4 l st)).st
def rMth (l : List UInt8) (st : St) : Mth × St :=
  if fg l (m2 l st) = true then (⟨sb (tx l st), (rList 32 rTx l (ts l st)).1, sb (tx l (m1 l st)), true, 0, [], []⟩, m3 l st)
  else (⟨sb (tx l st), (rList 32 rTx l (ts l st)).1, sb (tx l (m1 l st)), false, sm l (m3 l st), takeL l (m4 l st), (rList 32 rCat l (m5 l st)).1⟩, (rList 32 rCat l (m5 l st)).2)
def c1 (l : List UInt8) (st : St) : St := ts l (ts l st)
def c2 (l : List UInt8) (st : St) : St := (rList 32 rTx l (c1 l st)).2
def c3 (l : List UInt8) (st : St) : St := fs l (fs l (fs l (c2 l st)))
def c4 (l : List UInt8) (st : St) : St := (rList 32 rFld l (c3 l st)).2
def rCls (l : List UInt8) (st : St) : Cls × St :=
  (⟨sb (tx l st), sb (tx l (ts l st)), (rList 32 rTx l (c1 l st)).1, fg l (c2 l st), fg l (fs l (c2 l st)), fg l (fs l (fs l (c2 l st))), (rList 32 rFld l (c3 l st)).1, (rList 32 rMth l (c4 l st)).1⟩, (rList 32 rMth l (c4 l st)).2)
/-! ### what was read well is its bytes -/
theorem fs_ok {l : List UInt8} {st : St} (h : (fs l st).2 = 0) : st.2 = 0 ∧ l.drop st.1 = flagL (fg l st) ++ l.drop (fs l st).1 := by
  obtain ⟨a, e⟩ := st
  by_cases he : e = 0
  ·
   subst he
   unfold fs at h
   simp only at h
   by_cases hf : (flagR (l.drop a)).1 = 0
   ·
    refine ⟨rfl, ?_⟩
    unfold fs fg
    simp only
    rw [got_ok hf, nxt_ok hf]
    simp only
    rw [← List.drop_drop]
    generalize l.drop a = m at hf ⊢
    cases m with
    | nil => simp [flagR] at hf
    | cons c t =>
      simp only [flagR] at hf ⊢
      by_cases hc : 1 < c.toNat
      ·
       rw [if_pos hc] at hf
       exact absurd hf (by decide)
      ·
       rw [if_neg hc]
       have h2 : c.toNat = 0 ∨ c.toNat = 1 := by omega
       rcases h2 with h2 | h2
       ·
        have e0 : c = 0 := UInt8.toNat_inj.1 h2
        subst e0; rfl
       ·
        have e0 : c = 1 := UInt8.toNat_inj.1 h2
        subst e0; rfl
   · rw [nxt_err hf] at h; exact absurd h hf
  ·
   unfold fs at h
   rw [nxt_stuck (st := (a, e)) he] at h
   exact absurd h he
theorem fs_of {l rest : List UInt8} {a : Nat} {b : Bool} (h : l.drop a = flagL b ++ rest) : fg l (a, 0) = b ∧ fs l (a, 0) = (a + (flagL b).length, 0) := by
  unfold fg fs
  simp only
  rw [h]
  cases b <;> exact ⟨rfl, rfl⟩
theorem ks_ok {most : Int} {l : List UInt8} {st : St} (h : (ks most l st).2 = 0) : st.2 = 0 ∧ l.drop st.1 = varL (kn most l st) ++ l.drop (ks most l st).1 ∧ (kn most l st : Int) ≤ most := by
  obtain ⟨a, e⟩ := st
  by_cases he : e = 0
  ·
   subst he
   unfold ks at h
   simp only at h
   by_cases hf : (countR most (l.drop a)).1 = 0
   ·
    refine ⟨rfl, ?_⟩
    unfold ks kn
    simp only
    rw [got_ok hf, nxt_ok hf]
    simp only
    rw [← List.drop_drop]
    generalize l.drop a = m at hf ⊢
    unfold countR at hf ⊢
    split at hf
    · exact absurd hf (by decide)
    ·
     rename_i hc
     rw [if_neg hc]
     have : ¬ (most < 0 ∨ most < (numL 0 m).2.1 ∨ m.length - (numL 0 m).2.2 < (numL 0 m).2.1) := fun k => hc ⟨hf, k⟩
     exact ⟨numL_canon m 0 hf, by omega⟩
   · rw [nxt_err hf] at h; exact absurd h hf
  ·
   unfold ks at h
   rw [nxt_stuck (st := (a, e)) he] at h
   exact absurd h he
theorem ks_of {most : Int} {l rest : List UInt8} {a n : Nat} (hn : (n : Int) ≤ most) (hm : most ≤ 1000000) (hr : n ≤ rest.length) (h : l.drop a = varL n ++ rest) : kn most l (a, 0) = n ∧ ks most l (a, 0) = (a + (varL n).length, 0) := by
  have e := numL_v n rest (by omega)
  have hc : countR most (l.drop a) = (0, n, (varL n).length) := by
    rw [h]
    unfold countR
    rw [e, if_neg]
    rintro ⟨_, k | k | k⟩
    · omega
    · have : most < (n : Int) := k; omega
    ·
     have k' : (varL n ++ rest).length - (varL n).length < n := k
     rw [List.length_append] at k'; omega
  unfold kn ks
  simp only
  rw [hc]
  exact ⟨rfl, rfl⟩
section
variable {T : Type} {f : List UInt8 → St → T × St} {e : T → List UInt8} {C : T → Prop} {l : List UInt8}
theorem rep_ok (hf : ∀ st, (f l st).2.2 = 0 → C (f l st).1 → st.2 = 0 ∧ l.drop st.1 = e (f l st).1 ++ l.drop (f l st).2.1) : ∀ (n : Nat) (st : St), (rep f l n st).2.2 = 0 → (∀ x ∈ (rep f l n st).1, C x) → st.2 = 0 ∧ l.drop st.1 = (rep f l n st).1.flatMap e ++ l.drop (rep f l n st).2.1
  | 0, st, h, _ => ⟨h, by simp [rep]⟩
  | n + 1, st, h, hC => by
    have ih := rep_ok hf n (f l st).2 h (fun x hx => hC x (List.mem_cons_of_mem _ hx))
    have h1 := hf st ih.1 (hC _ List.mem_cons_self)
    refine ⟨h1.1, ?_⟩
    rw [h1.2, ih.2]
    show _ = ((f l st).1 :: (rep f l n (f l st).2).1).flatMap e ++ _
    rw [List.flatMap_cons, List.append_assoc]; rfl
theorem rep_len (n : Nat) : ∀ st : St, (rep f l n st).1.length = n := by
  induction n with
  | zero => intro st; rfl
  | succ n ih => intro st; show (_ :: _).length = _; rw [List.length_cons, ih]
theorem rep_of : ∀ (z : List T) (a : Nat) (rest : List UInt8), (∀ x ∈ z, ∀ a rest, l.drop a = e x ++ rest → f l (a, 0) = (x, (a + (e x).length, 0))) → l.drop a = z.flatMap e ++ rest → rep f l z.length (a, 0) = (z, (a + (z.flatMap e).length, 0))
  | [], a, rest, _, h => by simp [rep]
  | x :: z, a, rest, hf, h => by
    rw [List.flatMap_cons, List.append_assoc] at h
    have h1 := hf x List.mem_cons_self a _ h
    have h2 := drop_more h
    have ih := rep_of z (a + (e x).length) rest (fun y hy => hf y (List.mem_cons_of_mem _ hy)) h2
    rw [List.length_cons]
    unfold rep
    rw [h1]
    simp only
    rw [ih, List.flatMap_cons, List.length_append, Nat.add_assoc]
theorem rList_ok {most : Int} (hf : ∀ st, (f l st).2.2 = 0 → C (f l st).1 → st.2 = 0 ∧ l.drop st.1 = e (f l st).1 ++ l.drop (f l st).2.1) {st : St} (h : (rList most f l st).2.2 = 0) (hC : ∀ x ∈ (rList most f l st).1, C x) :
    st.2 = 0 ∧ l.drop st.1 = (varL (rList most f l st).1.length ++ (rList most f l st).1.flatMap e) ++ l.drop (rList most f l st).2.1 ∧ ((rList most f l st).1.length : Int) ≤ most := by
  unfold rList at h hC ⊢
  have h1 := rep_ok hf _ _ h hC
  have h2 := ks_ok h1.1
  rw [rep_len]
  exact ⟨h2.1, by rw [h2.2.1, h1.2, List.append_assoc], h2.2.2⟩
theorem rList_of {most : Int} {z : List T} {a : Nat} {rest : List UInt8} (hz : (z.length : Int) ≤ most) (hm : most ≤ 1000000) (hp : ∀ x ∈ z, 0 < (e x).length) (hf : ∀ x ∈ z, ∀ a rest, l.drop a = e x ++ rest → f l (a, 0) = (x, (a + (e x).length, 0)))
    (h : l.drop a = (varL z.length ++ z.flatMap e) ++ rest) : rList most f l (a, 0) = (z, (a + (varL z.length ++ z.flatMap e).length, 0)) := by
  rw [List.append_assoc] at h
  have hle : z.length ≤ (z.flatMap e).length := by
    clear h hz hf
    induction z with
    | nil => exact Nat.le_refl _
    | cons x z ih =>
      have := hp x List.mem_cons_self
      have := ih fun y hy => hp y (List.mem_cons_of_mem _ hy)
      rw [List.flatMap_cons, List.length_append, List.length_cons]; omega
  obtain ⟨k1, k2⟩ := ks_of hz hm (by rw [List.length_append]; omega) h
  unfold rList
  rw [k1, k2, rep_of z _ rest hf (drop_more h), List.length_append, Nat.add_assoc]
end
end Go.Proofs.YthpknpfhpkkheaaGreatDoor

namespace Go.Proofs.YthpknpfhpkkheaaGreatDoor
open Go Go.RowKit
set_option linter.unusedVariables false
set_option linter.unusedSimpArgs false
set_option maxRecDepth 100000
theorem zig_zag (v : Int) (h : 0 ≤ v) : zigI (zagI v) = v := by
  unfold zigI zagI
  split <;> split <;> omega
theorem opIx_rowB : ((List.range 42).all fun k => decide (opIx (opT.getD k default).1 = some k)) = true := by decide +kernel
theorem opIx_row {k : Nat} (h : k < 42) : opIx (opT.getD k default).1 = some k := of_decide_eq_true (List.all_eq_true.1 opIx_rowB k (List.mem_range.2 h))
theorem text_canon {m : List UInt8} (h : (textR m).1 = 0) : m = textL (sb (textR m).2.1) ++ m.drop (textR m).2.2 := by
  obtain ⟨h1, h2⟩ := ts_ok0 (l := m) (st := (0, 0)) rfl (by simpa using h)
  have := ts_ok (l := m) (st := (0, 0)) (by rw [h1])
  rw [h2, h1] at this
  simpa using this.2
theorem item_canon {m m' : List UInt8} {x : Ins} (h : rItem m = some (x, m')) : m = insB x ++ m' ∧ checkI x = 0 := by
  by_cases hb : (numL 0 m).1 ≠ 0 ∨ 42 ≤ (numL 0 m).2.1
  · rw [rItem_bad hb] at h; cases h
  ·
   rw [rItem_on hb] at h
   have hn : (numL 0 m).1 = 0 := Classical.not_not.1 fun k => hb (.inl k)
   have hk : (numL 0 m).2.1 < 42 := by omega
   have hc := numL_canon m 0 hn
   have hix := opIx_row hk
   have hone := List.all_eq_true.1 tk_oneB _ (List.mem_range.2 hk)
   obtain ⟨y, m1, hy, hx, hm⟩ : ∃ y m1, rRest (opT.getD (numL 0 m).2.1 default) (m.drop (numL 0 m).2.2) = some (y, m1) ∧ checkI y = 0 ∧ (y = x ∧ m1 = m') := by
     cases hr : rRest (opT.getD (numL 0 m).2.1 default) (m.drop (numL 0 m).2.2) with
     | none => rw [hr] at h; cases h
     | some p =>
       obtain ⟨y, m1⟩ := p
       rw [hr] at h
       unfold rChk at h
       simp only at h
       split at h
       · cases h
       ·
        rename_i hc0
        injection h with h
        injection h with h1 h2
        exact ⟨y, m1, rfl, Classical.not_not.1 hc0, h1, h2⟩
   obtain ⟨rfl, rfl⟩ := hm
   refine ⟨?_, hx⟩
   have hop : y.op = (opT.getD (numL 0 m).2.1 default).1 := by
     unfold rRest at hy
     split at hy
     ·
      split at hy
      · cases hy
      · injection hy with hy; injection hy with h1 h2; rw [← h1]
     ·
      split at hy
      ·
       split at hy
       · cases hy
       · injection hy with hy; injection hy with h1 h2; rw [← h1]
      · injection hy with hy; injection hy with h1 h2; rw [← h1]
   rw [insB_of (k := (numL 0 m).2.1) (by rw [hop]; exact hix)]
   have e0 : m = varL (numL 0 m).2.1 ++ m.drop (numL 0 m).2.2 := hc
   conv => lhs; rw [e0]
   unfold insT
   rw [List.append_assoc]
   congr 1
   clear e0 hc hix hop
   generalize m.drop (numL 0 m).2.2 = r at hy ⊢
   generalize opT.getD (numL 0 m).2.1 default = o at hy hone ⊢
   obtain ⟨on, oa, ob⟩ := o
   simp only at hone ⊢
   unfold rRest at hy
   cases oa with
   | true =>
     cases ob with
     | true => exact absurd hone (by decide)
     | false =>
       rw [if_pos (show rtI (true, false, true) = 1 from rfl)] at hy
       split at hy
       · cases hy
       ·
        rename_i hn2
        rw [rd1] at hn2 hy
        injection hy with hy
        injection hy with h1 h2
        simp only [if_true, Bool.false_eq_true, if_false, List.append_nil]
        have hn3 : (numL 0 r).1 = 0 := Classical.not_not.1 hn2
        have e2 := numL_canon r 0 hn3
        have e3 : y.n = zagI ((numL 0 r).2.1 : Nat) := by rw [← h1]
        rw [e3, zig_zag _ (by omega), Int.toNat_natCast]
        rw [← h2]
        exact e2
   | false =>
     cases ob with
     | true =>
       rw [if_neg (show ¬ rtI (false, true, true) = 1 by decide), if_pos (show rtI (false, true, true) = 2 from rfl)] at hy
       split at hy
       · cases hy
       ·
        rename_i hn2
        rw [rd4] at hn2 hy
        injection hy with hy
        injection hy with h1 h2
        simp only [if_true, Bool.false_eq_true, if_false, List.nil_append]
        have hn3 : (textR r).1 = 0 := Classical.not_not.1 hn2
        have e2 := text_canon hn3
        have e3 : y.s = sb (textR r).2.1 := by rw [← h1]
        rw [e3, ← h2]
        exact e2
     | false =>
       rw [if_neg (show ¬ rtI (false, false, true) = 1 by decide), if_neg (show ¬ rtI (false, false, true) = 2 by decide)] at hy
       injection hy with hy
       injection hy with h1 h2
       all_goals (simp only [Bool.false_eq_true, if_false, List.nil_append]; exact h2)
theorem items_canon : ∀ (n : Nat) (m m' : List UInt8) (out z : List Ins), rItems n m out = some (z, m') → ∃ y, z = out ++ y ∧ y.length = n ∧ m = y.flatMap insB ++ m' ∧ allI y = 0
  | 0, m, m', out, z, h => by injection h with h; injection h with h1 h2; exact ⟨[], by simp [h1], rfl, by simp [h2], rfl⟩
  | n + 1, m, m', out, z, h => by
    unfold rItems at h
    cases hi : rItem m with
    | none => rw [hi] at h; cases h
    | some p =>
      obtain ⟨x, m1⟩ := p
      rw [hi] at h
      obtain ⟨e1, e2⟩ := item_canon hi
      obtain ⟨y, k1, k2, k3, k4⟩ := items_canon n m1 m' _ z h
      refine ⟨x :: y, by rw [k1]; simp, by rw [List.length_cons, k2], by rw [e1, k3, List.flatMap_cons, List.append_assoc], ?_⟩
      show (if checkI x ≠ 0 then checkI x else allI y) = 0
      rw [e2, if_neg (fun k => k rfl)]; exact k4
theorem take_canon {m m' : List UInt8} {z : List Ins} (h : rTake m = some (z, m')) : m = putL z ++ m' ∧ allI z = 0 ∧ z.length ≤ 200 := by
  unfold rTake at h
  split at h
  · cases h
  ·
   rename_i hc
   have hc : (countR 200 m).1 = 0 := Classical.not_not.1 hc
   obtain ⟨y, k1, k2, k3, k4⟩ := items_canon _ _ _ _ _ h
   rw [List.nil_append] at k1
   subst k1
   have hs := ks_ok (most := 200) (l := m) (st := (0, 0)) (by unfold ks; simp only [List.drop_zero]; rw [nxt_ok hc]; exact hc)
   have hk : kn 200 m (0, 0) = (countR 200 m).2.1 := by unfold kn; simp only [List.drop_zero]; rw [got_ok hc]
   have hks : (ks 200 m (0, 0)).1 = (countR 200 m).2.2 := by unfold ks; simp only [List.drop_zero]; rw [nxt_ok hc, Nat.zero_add]
   rw [hk, hks] at hs
   refine ⟨?_, k4, by have := hs.2.2; omega⟩
   have e0 : m = varL (countR 200 m).2.1 ++ m.drop (countR 200 m).2.2 := by simpa using hs.2.1
   conv => lhs; rw [e0, k3]
   unfold putL
   rw [k2, List.append_assoc]
theorem take_at {l : List UInt8} {a : Nat} (ha : a ≤ l.length) :
    (∀ z m, rTake (l.drop a) = some (z, m) → Good l (takeA l (a, 0)) ∧ (takeA l (a, 0)).out = z ∧ l.drop (takeA l (a, 0)).st.1 = m) ∧ (rTake (l.drop a) = none → badT (takeA l (a, 0))) := by
  unfold rTake takeA
  by_cases hc : (countR 200 (l.drop a)).1 = 0
  ·
   rw [if_neg (by simpa using hc)]
   have h1 : cs l (a, 0) = (a + (countR 200 (l.drop a)).2.2, 0) := by
     unfold cs; simp only; rw [nxt_ok hc, hc]
   have h2 : cn l (a, 0) = (countR 200 (l.drop a)).2.1 := by
     unfold cn; simp only; rw [got_ok hc]
   have hle : (countR 200 (l.drop a)).2.2 ≤ l.length - a := by
     have : (countR 200 (l.drop a)).2.2 ≤ (l.drop a).length := by
       unfold countR at hc ⊢
       split at hc
       · exact absurd hc (by decide)
       ·
        rename_i hn
        rw [if_neg hn]
        exact numL_in _ 0 hc
     rwa [List.length_drop] at this
   rw [h1, h2, List.drop_drop]
   exact items_sync (l := l) (countR 200 (l.drop a)).2.1 ⟨(a + (countR 200 (l.drop a)).2.2, 0), true, []⟩ ⟨rfl, rfl, by show a + _ ≤ _; omega, rfl⟩
  ·
   rw [if_pos hc]
   refine ⟨fun z m h => (by cases h), fun _ => bad_steps (.inl ?_) _⟩
   show (cs l (a, 0)).2 ≠ 0
   unfold cs; simp only; rw [nxt_err hc]; exact hc
theorem takeN_stuck {l : List UInt8} {t : Tk} (h : t.st.2 ≠ 0) : ∀ n, (takeN l n t).st.2 ≠ 0
  | 0 => h
  | n + 1 => by
    have ih := takeN_stuck (l := l) h n
    show (take1 l (takeN l n t)).st.2 ≠ 0
    have h1 : ns l (takeN l n t).st = (takeN l n t).st := nxt_stuck ih _ _
    unfold take1
    split
    · show (ns l _).2 ≠ 0; rw [h1]; exact ih
    · exact takeO_stuck (by rw [h1]; exact ih)
theorem ta_ok {l : List UInt8} {st : St} (h : (takeA l st).st.2 = 0) (hne : takeL l st ≠ []) : st.2 = 0 ∧ l.drop st.1 = putL (takeL l st) ++ l.drop (takeA l st).st.1 := by
  obtain ⟨a, e⟩ := st
  by_cases he : e = 0
  ·
   subst he
   refine ⟨rfl, ?_⟩
   have hl : a ≤ l.length := by
     rcases Nat.lt_or_ge l.length a with h' | h'
     ·
      exfalso
      unfold takeA at h
      refine takeN_stuck (l := l) (t := ⟨cs l (a, 0), true, []⟩) ?_ _ h
      show (cs l (a, 0)).2 ≠ 0
      unfold cs
      simp only
      rw [List.drop_of_length_le (by omega)]
      have hc : (countR 200 ([] : List UInt8)).1 = 10 := rfl
      rw [nxt_err (by rw [hc]; decide), hc]
      exact (by decide : (10 : Int) ≠ 0)
     · exact h'
   obtain ⟨k1, k2⟩ := take_at hl
   cases hr : rTake (l.drop a) with
   | none => exact absurd (if_pos (k2 hr)) hne
   | some p =>
     obtain ⟨z, m⟩ := p
     obtain ⟨hg, ho, hd⟩ := k1 z m hr
     have ht : takeL l (a, 0) = z := by
       unfold takeL
       rw [if_neg (by rintro (k | k | k); exact k hg.e; (rw [hg.ok] at k; cases k); exact k hg.all), ho]
     rw [ht, hd]
     exact (take_canon hr).1
  ·
   exfalso
   unfold takeA at h
   refine takeN_stuck (l := l) (t := ⟨cs l (a, e), true, []⟩) ?_ _ h
   show (cs l (a, e)).2 ≠ 0
   unfold cs
   rw [nxt_stuck (st := (a, e)) he]; exact he
theorem ta_of {l rest : List UInt8} {a : Nat} {z : List Ins} (ha : allI z = 0) (hs : ∀ x ∈ z, (-9223372036854775808 ≤ x.n ∧ x.n ≤ 9223372036854775807) ∧ x.s.size ≤ 1000) (hz : z.length ≤ 200) (h : l.drop a = putL z ++ rest) :
    takeL l (a, 0) = z ∧ (takeA l (a, 0)).st = (a + (putL z).length, 0) := by
  have hlen := congrArg List.length h
  rw [List.length_drop, List.length_append] at hlen
  have hp : 0 < (putL z).length := by unfold putL; rw [List.length_append]; have := varL_pos z.length; omega
  have hr := take_put ha hs hz rest
  rw [← h] at hr
  obtain ⟨hg, ho, hd⟩ := (take_at (l := l) (a := a) (by omega)).1 z rest hr
  refine ⟨?_, ?_⟩
  ·
   unfold takeL
   rw [if_neg (by rintro (k | k | k); exact k hg.e; (rw [hg.ok] at k; cases k); exact k hg.all), ho]
  ·
   have hle := hg.le
   have he := hg.e
   have hdl := congrArg List.length hd
   rw [List.length_drop] at hdl
   generalize (takeA l (a, 0)).st = st at hle he hdl
   obtain ⟨b, e⟩ := st
   simp only at hle he hdl
   subst he
   congr 1; omega
/-! ### texts, fields, catches -/
/-- A text that is read as it is. -/
def goodT (s : ByteArray) : Prop := s.size ≤ 4096 ∧ Lib.validD (bs s) = true
theorem name_good {s : ByteArray} (h : nameP s) : goodT s := ⟨by have := h.2.1; omega, gb_valid (name_gb h)⟩
theorem base_len : ∀ (k : Nat) (l : List UInt8), l.length = k → l.length = (baseF l).1.length + 2 * (baseF l).2 := by
  intro k l _
  have h := baseF_fact _ l rfl
  rw [h.2, List.length_take]
  have := h.1
  omega
theorem right_good {s : ByteArray} (h : rightK s) : goodT s := by
  refine ⟨?_, gb_valid (right_gb h)⟩
  have h1 := base_len _ (bs s) rfl
  rw [bs_length] at h1
  have h2 : (baseF (bs s)).2 ≤ 3 := h.1
  have h3 : (baseF (bs s)).1.length ≤ 32 := by
    have e : (baseF (bs s)).1 = bs (baseS s) := by unfold baseS; rw [bs_sb]
    rw [e, bs_length]
    rcases h.2 with h | h
    · rcases h with h | h | h <;> rw [h] <;> decide
    · exact h.1.2.1
  omega
theorem empty_good : goodT { data := #[] } := ⟨by decide, by decide +kernel⟩
theorem rTx_ok {l : List UInt8} (st : St) (h : (rTx l st).2.2 = 0) (_ : True) : st.2 = 0 ∧ l.drop st.1 = textL (rTx l st).1 ++ l.drop (rTx l st).2.1 := ts_ok h
theorem rTx_of {l : List UInt8} {x : ByteArray} (hx : goodT x) (a : Nat) (rest : List UInt8) (h : l.drop a = textL x ++ rest) : rTx l (a, 0) = (x, (a + (textL x).length, 0)) := by
  obtain ⟨h1, h2⟩ := ts_of hx.1 hx.2 h
  unfold rTx
  rw [h1, h2, sb_bs]
theorem textL_pos (x : ByteArray) : 0 < (textL x).length := by unfold textL; rw [List.length_append]; have := varL_pos x.size; omega
theorem rFld_ok {l : List UInt8} (st : St) (h : (rFld l st).2.2 = 0) (_ : True) : st.2 = 0 ∧ l.drop st.1 = fldB (rFld l st).1 ++ l.drop (rFld l st).2.1 := by
  have h3 := fs_ok (l := l) (st := ts l (ts l st)) h
  have h2 := ts_ok (l := l) (st := ts l st) h3.1
  have h1 := ts_ok (l := l) (st := st) h2.1
  refine ⟨h1.1, ?_⟩
  rw [h1.2, h2.2, h3.2]
  unfold fldB rFld
  simp only [List.append_assoc]
theorem rFld_of {l : List UInt8} {x : CF} (h1 : goodT x.name) (h2 : goodT x.kind) (a : Nat) (rest : List UInt8) (h : l.drop a = fldB x ++ rest) : rFld l (a, 0) = (x, (a + (fldB x).length, 0)) := by
  unfold fldB at h ⊢
  simp only [List.append_assoc] at h
  obtain ⟨k1, k2⟩ := ts_of h1.1 h1.2 h
  have g := drop_more h
  obtain ⟨k3, k4⟩ := ts_of h2.1 h2.2 g
  have g2 := drop_more g
  obtain ⟨k5, k6⟩ := fs_of g2
  unfold rFld
  rw [k1, k2, k3, k4, k5, k6, sb_bs, sb_bs]
  simp only [List.length_append]
  rw [show a + (textL x.name).length + (textL x.kind).length + (flagL x.tr).length = a + ((textL x.name).length + ((textL x.kind).length + (flagL x.tr).length)) by omega]
theorem sm_eq {l : List UInt8} {st : St} (h : sm l st < 1048576) : (sm l st).toNat = nm l st := by unfold sm at h ⊢; omega
def smallC' (x : Cat) : Prop := x.fr < 1048576 ∧ x.tt < 1048576 ∧ x.aa < 1048576
theorem rCat_ok {l : List UInt8} (st : St) (h : (rCat l st).2.2 = 0) (hC : smallC' (rCat l st).1) : st.2 = 0 ∧ l.drop st.1 = catB (rCat l st).1 ++ l.drop (rCat l st).2.1 := by
  obtain ⟨s1, s2, s3⟩ := hC
  have h4 := ts_ok (l := l) (st := ns l (ns l (ns l st))) h
  have h3 := ns_ok (l := l) (st := ns l (ns l st)) h4.1
  have h2 := ns_ok (l := l) (st := ns l st) h3.1
  have h1 := ns_ok (l := l) (st := st) h2.1
  refine ⟨h1.1, ?_⟩
  rw [h1.2, h2.2, h3.2, h4.2]
  have e1 := sm_eq (l := l) (st := st) s1
  have e2 := sm_eq (l := l) (st := ns l st) s2
  have e3 := sm_eq (l := l) (st := ns l (ns l st)) s3
  unfold catB rCat
  simp only [List.append_assoc]
  rw [e1, e2, e3]
theorem sm_of {l : List UInt8} {st : St} {n : Int} (h : nm l st = n.toNat) (h0 : 0 ≤ n) (h1 : n < 1048576) : sm l st = n := by unfold sm; rw [h]; omega
theorem rCat_of {l : List UInt8} {n : Nat} {x : Cat} (hx : catP n x) (hn : n ≤ 1000) (a : Nat) (rest : List UInt8) (h : l.drop a = catB x ++ rest) : rCat l (a, 0) = (x, (a + (catB x).length, 0)) := by
  obtain ⟨q1, q2, q3, q4, q5, q6⟩ := hx
  have hg := name_good q6.1
  unfold catB at h ⊢
  simp only [List.append_assoc] at h
  obtain ⟨k1, k2⟩ := ns_of (v := x.fr.toNat) (by omega) h
  have g := drop_more h
  obtain ⟨k3, k4⟩ := ns_of (v := x.tt.toNat) (by omega) g
  have g2 := drop_more g
  obtain ⟨k5, k6⟩ := ns_of (v := x.aa.toNat) (by omega) g2
  have g3 := drop_more g2
  obtain ⟨k7, k8⟩ := ts_of hg.1 hg.2 g3
  unfold rCat
  rw [sm_of k1 q1 (by omega), k2, sm_of k3 (by omega) (by omega), k4, sm_of k5 q4 (by omega), k6, k7, k8, sb_bs]
  simp only [List.length_append]
  rw [show a + (varL x.fr.toNat).length + (varL x.tt.toNat).length + (varL x.aa.toNat).length + (textL x.cls).length = a + ((varL x.fr.toNat).length + ((varL x.tt.toNat).length + ((varL x.aa.toNat).length + (textL x.cls).length))) by omega]
end Go.Proofs.YthpknpfhpkkheaaGreatDoor

namespace Go.Proofs.YthpknpfhpkkheaaGreatDoor
open Go Go.RowKit
set_option linter.unusedVariables false
set_option linter.unusedSimpArgs false
set_option maxRecDepth 100000
/-- What was read of a method may be read as it is. -/
def readM (m : Mth) : Prop := m.abs = false → m.locals < 1048576 ∧ m.code ≠ [] ∧ ∀ x ∈ m.cats, smallC' x
theorem rMth_ok {l : List UInt8} (st : St) (h : (rMth l st).2.2 = 0) (hC : readM (rMth l st).1) : st.2 = 0 ∧ l.drop st.1 = mthB (rMth l st).1 ++ l.drop (rMth l st).2.1 := by
  unfold rMth at h hC ⊢
  by_cases hf : fg l (m2 l st) = true
  ·
   rw [if_pos hf] at h ⊢
   have h4 := fs_ok (l := l) (st := m2 l st) h
   have h3 := ts_ok (l := l) (st := m1 l st) h4.1
   have h2 := rList_ok (f := rTx) (e := textL) (C := fun _ => True) (l := l) rTx_ok (most := 32) (st := ts l st) h3.1 (fun _ _ => trivial)
   have h1 := ts_ok (l := l) (st := st) h2.1
   refine ⟨h1.1, ?_⟩
   rw [hf] at h4
   have e2 : l.drop (ts l st).1 = _ := h2.2.1
   have e3 : l.drop (m1 l st).1 = _ := h3.2
   have e4 : l.drop (m2 l st).1 = _ := h4.2
   rw [h1.2, e2]
   show _ ++ (_ ++ l.drop (m1 l st).1) = _
   rw [e3]
   show _ ++ (_ ++ (_ ++ l.drop (m2 l st).1)) = _
   rw [e4]
   unfold mthB bodyB txtsL m3
   simp only [if_true, List.append_assoc, List.nil_append]
  ·
   have hf' : fg l (m2 l st) = false := by cases hh : fg l (m2 l st) with | true => exact absurd hh hf | false => rfl
   rw [if_neg hf] at h hC ⊢
   obtain ⟨c1, c2, c3⟩ := hC rfl
   simp only at c1 c2 c3
   have h7 := rList_ok (f := rCat) (e := catB) (C := smallC') (l := l) rCat_ok (most := 32) (st := m5 l st) h c3
   have h6 := ta_ok (l := l) (st := m4 l st) h7.1 c2
   have h5 := ns_ok (l := l) (st := m3 l st) h6.1
   have h4 := fs_ok (l := l) (st := m2 l st) h5.1
   have h3 := ts_ok (l := l) (st := m1 l st) h4.1
   have h2 := rList_ok (f := rTx) (e := textL) (C := fun _ => True) (l := l) rTx_ok (most := 32) (st := ts l st) h3.1 (fun _ _ => trivial)
   have h1 := ts_ok (l := l) (st := st) h2.1
   refine ⟨h1.1, ?_⟩
   rw [hf'] at h4
   have e2 : l.drop (ts l st).1 = _ := h2.2.1
   have e3 : l.drop (m1 l st).1 = _ := h3.2
   have e4 : l.drop (m2 l st).1 = _ := h4.2
   have e5 : l.drop (m3 l st).1 = _ := h5.2
   have e6 : l.drop (m4 l st).1 = _ := h6.2
   have e7 : l.drop (m5 l st).1 = _ := h7.2.1
   rw [h1.2, e2]
   show _ ++ (_ ++ l.drop (m1 l st).1) = _
   rw [e3]
   show _ ++ (_ ++ (_ ++ l.drop (m2 l st).1)) = _
   rw [e4]
   show _ ++ (_ ++ (_ ++ (_ ++ l.drop (m3 l st).1))) = _
   rw [e5]
   show _ ++ (_ ++ (_ ++ (_ ++ (_ ++ l.drop (m4 l st).1)))) = _
   rw [e6]
   show _ ++ (_ ++ (_ ++ (_ ++ (_ ++ (_ ++ l.drop (m5 l st).1))))) = _
   rw [e7]
   unfold mthB bodyB txtsL
   simp only [Bool.false_eq_true, if_false, List.append_assoc]
   rw [sm_eq c1]
theorem mthB_pos (m : Mth) : 0 < (mthB m).length := by unfold mthB; rw [List.length_append]; have := textL_pos m.name; omega
theorem catB_pos (x : Cat) : 0 < (catB x).length := by unfold catB; rw [List.length_append]; have := varL_pos x.fr.toNat; omega
theorem fldB_pos (x : CF) : 0 < (fldB x).length := by unfold fldB; rw [List.length_append]; have := textL_pos x.name; omega
/-- What of a method may be written and is read again. -/
structure goodM (m : Mth) : Prop where
  p : mthP m
  few : ¬ manyM m
  ins : ∀ x ∈ m.code, (-9223372036854775808 ≤ x.n ∧ x.n ≤ 9223372036854775807) ∧ x.s.size ≤ 1000
theorem rTexts_of {l : List UInt8} {z : List ByteArray} (hz : z.length ≤ 32) (hg : ∀ x ∈ z, goodT x) {a : Nat} {rest : List UInt8} (h : l.drop a = txtsL z ++ rest) : rList 32 rTx l (a, 0) = (z, (a + (txtsL z).length, 0)) :=
  rList_of (e := textL) (by omega) (by decide) (fun x _ => textL_pos x) (fun x hx a rest h => rTx_of (hg x hx) a rest h) h
theorem rMth_of {l : List UInt8} {m : Mth} (hm : goodM m) (a : Nat) (rest : List UInt8) (h : l.drop a = mthB m ++ rest) : rMth l (a, 0) = (m, (a + (mthB m).length, 0)) := by
  obtain ⟨⟨p1, p2, p3, p4⟩, hfew, hins⟩ := hm
  have hname := name_good p1.1
  have hres : goodT m.result := by
    rcases p3 with h | h
    · rw [h]; exact empty_good
    · exact right_good h
  unfold manyM at hfew
  unfold mthB at h ⊢
  simp only [List.append_assoc] at h
  obtain ⟨k1, k2⟩ := ts_of hname.1 hname.2 h
  have g1 := drop_more h
  have k3 := rTexts_of (by omega) (fun x hx => right_good (p2 x hx)) g1
  have g2 := drop_more g1
  obtain ⟨k4, k5⟩ := ts_of hres.1 hres.2 g2
  have g3 := drop_more g2
  obtain ⟨k6, k7⟩ := fs_of g3
  have g4 := drop_more g3
  have q1 : m1 l (a, 0) = (a + (textL m.name).length + (txtsL m.params).length, 0) := by unfold m1; rw [k2, k3]
  have q2 : m2 l (a, 0) = (a + (textL m.name).length + (txtsL m.params).length + (textL m.result).length, 0) := by unfold m2; rw [q1, k5]
  have q3 : m3 l (a, 0) = (a + (textL m.name).length + (txtsL m.params).length + (textL m.result).length + (flagL m.abs).length, 0) := by unfold m3; rw [q2, k7]
  unfold rMth
  rw [q2, k6, k1, k2, k3, q1, k4, q3, sb_bs, sb_bs]
  unfold bodyP at p4
  unfold bodyB at g4 ⊢
  by_cases ha : m.abs = true
  ·
   rw [if_pos ha] at p4 ⊢
   rw [if_pos ha] at g4 ⊢
   obtain ⟨r1, r2, r3⟩ := p4
   obtain ⟨mn, mp, mr, mab, mlo, mco, mca⟩ := m
   simp only at ha r1 r2 r3 ⊢
   subst ha r1 r2 r3
   simp only [List.length_append, List.length_nil, Nat.add_zero]
   rw [show a + (textL mn).length + (txtsL mp).length + (textL mr).length + (flagL true).length = a + ((textL mn).length + ((txtsL mp).length + ((textL mr).length + (flagL true).length))) by omega]
  ·
   rw [if_neg ha] at p4 ⊢
   rw [if_neg ha] at g4 ⊢
   obtain ⟨r1, r2, r3, r4⟩ := p4
   simp only [List.append_assoc] at g4
   obtain ⟨k8, k9⟩ := ns_of (v := m.locals.toNat) (by omega) g4
   have g5 := drop_more g4
   obtain ⟨k10, k11⟩ := ta_of r3 hins (by omega) g5
   have g6 := drop_more g5
   rw [← List.append_assoc] at g6
   have k12 := rList_of (f := rCat) (e := catB) (most := 32) (z := m.cats) (by omega) (by decide) (fun x _ => catB_pos x) (fun x hx a rest h => rCat_of (r4 x hx) (by omega) a rest h) g6
   have q4 : m4 l (a, 0) = (a + (textL m.name).length + (txtsL m.params).length + (textL m.result).length + (flagL m.abs).length + (varL m.locals.toNat).length, 0) := by unfold m4; rw [q3, k9]
   have q5 : m5 l (a, 0) = (a + (textL m.name).length + (txtsL m.params).length + (textL m.result).length + (flagL m.abs).length + (varL m.locals.toNat).length + (putL m.code).length, 0) := by unfold m5; rw [q4, k11]
   rw [q4, k10, q5, k12, sm_of k8 (by omega) (by omega)]
   obtain ⟨mn, mp, mr, mab, mlo, mco, mca⟩ := m
   simp only at ha ⊢
   have ha2 : mab = false := by cases mab <;> simp_all
   subst ha2
   simp only [List.length_append]
   refine congrArg (Prod.mk _) ?_
   refine congrArg (fun n : Nat => ((n, 0) : Nat × Int)) ?_
   omega
theorem rCls_ok {l : List UInt8} (st : St) (h : (rCls l st).2.2 = 0) (hC : ∀ m ∈ (rCls l st).1.ms, readM m) : st.2 = 0 ∧ l.drop st.1 = clsB (rCls l st).1 ++ l.drop (rCls l st).2.1 := by
  have h9 := rList_ok (f := rMth) (e := mthB) (C := readM) (l := l) rMth_ok (most := 32) (st := c4 l st) h hC
  have h8 := rList_ok (f := rFld) (e := fldB) (C := fun _ => True) (l := l) rFld_ok (most := 32) (st := c3 l st) h9.1 (fun _ _ => trivial)
  have h7 := fs_ok (l := l) (st := fs l (fs l (c2 l st))) h8.1
  have h6 := fs_ok (l := l) (st := fs l (c2 l st)) h7.1
  have h5 := fs_ok (l := l) (st := c2 l st) h6.1
  have h4 := rList_ok (f := rTx) (e := textL) (C := fun _ => True) (l := l) rTx_ok (most := 32) (st := c1 l st) h5.1 (fun _ _ => trivial)
  have h3 := ts_ok (l := l) (st := ts l st) h4.1
  have h2 := ts_ok (l := l) (st := st) h3.1
  refine ⟨h2.1, ?_⟩
  have e4 : l.drop (c1 l st).1 = _ := h4.2.1
  have e5 : l.drop (c2 l st).1 = _ := h5.2
  have e8 : l.drop (c3 l st).1 = _ := h8.2.1
  have e9 : l.drop (c4 l st).1 = _ := h9.2.1
  rw [h2.2, h3.2]
  show _ ++ (_ ++ l.drop (c1 l st).1) = _
  rw [e4]
  show _ ++ (_ ++ (_ ++ l.drop (c2 l st).1)) = _
  rw [e5, h6.2, h7.2]
  show _ ++ (_ ++ (_ ++ (_ ++ (_ ++ (_ ++ l.drop (c3 l st).1))))) = _
  rw [e8]
  show _ ++ (_ ++ (_ ++ (_ ++ (_ ++ (_ ++ (_ ++ l.drop (c4 l st).1)))))) = _
  rw [e9]
  unfold clsB txtsL
  simp only [List.append_assoc]
  rfl
structure goodC (c : Cls) : Prop where
  p : clsP c
  few : ¬ manyP c
  ins : ∀ m ∈ c.ms, ∀ x ∈ m.code, (-9223372036854775808 ≤ x.n ∧ x.n ≤ 9223372036854775807) ∧ x.s.size ≤ 1000
theorem rCls_of {l : List UInt8} {c : Cls} (hc : goodC c) (a : Nat) (rest : List UInt8) (h : l.drop a = clsB c ++ rest) : rCls l (a, 0) = (c, (a + (clsB c).length, 0)) := by
  obtain ⟨hp, hfew, hins⟩ := hc
  have f1 : c.like.length ≤ 32 := by have : ¬ 32 < c.like.length := fun k => hfew (.inr (.inl k)); omega
  have f2 : c.fields.length ≤ 32 := by have : ¬ 32 < c.fields.length := fun k => hfew (.inr (.inr (.inl k))); omega
  have f3 : c.ms.length ≤ 32 := by have : ¬ 32 < c.ms.length := fun k => hfew (.inr (.inr (.inr k))); omega
  have f4 : ∀ m ∈ c.ms, ¬ manyM m := fun m hm k => hfew (.inl ⟨m, hm, k⟩)
  have g0 := name_good hp.name.1
  have g1 := name_good hp.super.1
  unfold clsB at h ⊢
  simp only [List.append_assoc] at h
  obtain ⟨k1, k2⟩ := ts_of g0.1 g0.2 h
  have d1 := drop_more h
  obtain ⟨k3, k4⟩ := ts_of g1.1 g1.2 d1
  have d2 := drop_more d1
  have k5 := rTexts_of f1 (fun x hx => name_good (hp.like x hx).1.1) d2
  have d3 := drop_more d2
  obtain ⟨k6, k7⟩ := fs_of d3
  have d4 := drop_more d3
  obtain ⟨k8, k9⟩ := fs_of d4
  have d5 := drop_more d4
  obtain ⟨k10, k11⟩ := fs_of d5
  have d6 := drop_more d5
  rw [← List.append_assoc] at d6
  have k12 := rList_of (f := rFld) (e := fldB) (most := 32) (z := c.fields) (by omega) (by decide) (fun x _ => fldB_pos x) (fun x hx a rest h => rFld_of (name_good (hp.fields x hx).1.1) (right_good (hp.fields x hx).2) a rest h) d6
  have d7 := drop_more d6
  rw [← List.append_assoc] at d7
  have k13 := rList_of (f := rMth) (e := mthB) (most := 32) (z := c.ms) (by omega) (by decide) (fun x _ => mthB_pos x) (fun x hx a rest h => rMth_of ⟨hp.ms x hx, f4 x hx, hins x hx⟩ a rest h) d7
  unfold rCls c4 c3 c2 c1
  simp only [k1, k2, k3, k4, k5, k6, k7, k8, k9, k10, k11, k12, k13, sb_bs]
  refine congrArg (Prod.mk _) ?_
  refine congrArg (fun n : Nat => ((n, 0) : Nat × Int)) ?_
  simp only [List.length_append]
  omega
theorem read_of {c : Cls} (hp : clsP c) (hf : ¬ manyP c) : ∀ m ∈ c.ms, readM m := by
  intro m hm ha
  have h4 : ¬ manyM m := fun k => hf (.inl ⟨m, hm, k⟩)
  unfold manyM at h4
  have hb := (hp.ms m hm).2.2.2
  unfold bodyP at hb
  rw [if_neg (by rw [ha]; decide)] at hb
  obtain ⟨b1, b2, b3, b4⟩ := hb
  refine ⟨by omega, fun k => (by rw [k] at b1; exact absurd b1 (by decide)), fun x hx => ?_⟩
  obtain ⟨q1, q2, q3, q4, q5, _⟩ := b4 x hx
  exact ⟨by omega, by omega, by omega⟩
end Go.Proofs.YthpknpfhpkkheaaGreatDoor

namespace Go.Proofs.YthpknpfhpkkheaaGreatDoor
open Go Go.RowKit Go.Lib
set_option linter.unusedVariables false
set_option linter.unusedSimpArgs false
/-- A function that may be called. -/
def Knows (P : Program) (fid : FuncId) : Prop := ∃ fn bd, P.funcs[fid]? = some fn ∧ (fn.name == "runtime.NumGoroutine") = false ∧ fn.body = some bd
section
variable {P : Program} {w : World} {f : Fr} {dst : Option Tmp} {ty : TypeId} {pos : String} {af : Array Edge} {g : Option (Nat × Bool)}
theorem r_callv {c : Operand} {args : Array Operand} {ts : Array TypeId} {fid : FuncId} {cap l : List Value} (hk : Knows P fid) (hc : ev f c = .func (.func fid) #[] cap.toArray) (ha : args.toList.map (ev f) ++ cap = l) :
    (execOp (ev f) ⟨dst, .call { callee := .value c, args := args, argTypes := ts }, ty, pos, af, g⟩).run P w = .ok (.enter fid l.toArray) w := by
  obtain ⟨fn, bd, h1, h2, h3⟩ := hk
  exact r_call h1 h2 h3 hc (by simpa using ha)
end
end Go.Proofs.YthpknpfhpkkheaaGreatDoor

namespace Go.Proofs.YthpknpfhpkkheaaGreatDoor
open Go Go.RowKit Go.ChangeShapes
set_option linter.unusedVariables false
set_option linter.unusedSimpArgs false
set_option maxRecDepth 100000
theorem ins_rt {x : Ins} (h : checkI x = 0) : ∃ k : Nat, k < 42 ∧ opZ x.op = (k : Int) ∧ insB x = (if rtI (takesF x.op) = 1 then varL k ++ varL (zigI x.n).toNat else if rtI (takesF x.op) = 2 then varL k ++ textL x.s else varL k) := by
  obtain ⟨k, o, hk, hko, ho, hon, ht, hone, h1, h2, h3⟩ := ok_parts h
  refine ⟨k, hk, by unfold opZ; rw [hko]; rfl, ?_⟩
  rw [insB_of hko, ho, ht]
  unfold insT
  obtain ⟨on, oa, ob⟩ := o
  simp only at hone
  cases oa <;> cases ob <;> first | exact absurd ⟨rfl, rfl⟩ hone | (simp [rtI]; done)
set_option maxHeartbeats 1000000 in
theorem rput04_walk (v : Value) (z : List Ins) (w0 : World) (hv : Sl w0 v 3 z.length (cellsI z)) (hl : z.length ≤ 10000) (hs : ∀ x ∈ z, (-9223372036854775808 ≤ x.n ∧ x.n ≤ 9223372036854775807) ∧ x.s.size ≤ 1000) (hok : ∀ x ∈ z, checkI x = 0) : Does Tryz.prog 40 #[v] w0 (fun r w' => r = .string (sb (putL z)) ∧ Nw w0 w') := by
  refine fn_of (n := 52) (args := [v]) Tryz.func40 rfl rfl rfl (W_seq (W_region (L_r (r_as rfl) (L_nil (W_seq (W_region (L_r (r_mv) ?_)))))))
  refine L_r (r_lenSl Tryz.underlying40 (by conv => lhs; whnf) Sl.au) ?_
  refine L_r (r_conv Tryz.underlying3 Tryz.underlying80 rfl (by first | exact wr_u64 (by omega) | rfl)) ?_
  refine L_call (.plain rfl) rfl rfl (r_call Tryz.func100 rfl rfl rfl (by rfl)) (rvar_walk z.length _ (by omega)) ?_
  rintro v8 w1 ⟨rfl, c1⟩
  have hz1 := c1.size
  have hzl : (varL z.length).length ≤ 10 := varL_ten (by omega)
  refine L_r (r_as rfl) (L_nil (W_seq (W_seq (W_region (L_r (r_ai rfl) (L_nil (W_block ?_)))))))
  refine W_loopF [0] (fun mz_ f W => ∃ (i : Nat) (B : List UInt8), f 4 = .int .i64 i ∧ f 3 = .string (sb B) ∧ (i ≤ z.length ∧ B = varL z.length ++ (z.take i).flatMap insB ∧ Nw w0 W) ∧ mz_ = z.length - i) ?_ ?_
  ·
   refine ⟨_, 0, varL z.length, rfl, rfl, ?_, rfl⟩
   exact ⟨by omega, by simp, Ch.au⟩
  rintro m0 g0 w2 ⟨i, B, hf4, hf3, hR0, rfl⟩
  refine W_as 4 hf4 rfl ?_
  refine W_as 3 hf3 rfl ?_
  clear hf4 hf3
  obtain ⟨hi, hB, hnw⟩ := hR0
  have hz := hnw.size
  have hpl := put_len (z.take i) (fun x hx => hs x (List.mem_of_mem_take hx))
  rw [List.length_take] at hpl
  have hBl : B.length ≤ 10310000 := by rw [hB, List.length_append]; omega
  have hBs := sb_size B
  refine W_seq (W_seq (W_region (L_r (r_mi rfl) (L_r (r_mv) ?_))))
  refine L_r (r_lenSl Tryz.underlying40 (by conv => lhs; whnf) Sl.au) (L_r (r_lss rfl rfl) (L_nil ?_))
  refine W_if rfl (fun h12 => ?_) (fun h12 => ?_)
  ·
   have hil : i < z.length := by omega
   have hrow := cellsI_row z i hil
   have hsx := hs z[i] (List.getElem_mem _)
   obtain ⟨k, hk, hkz, hlx⟩ := ins_rt (hok z[i] (List.getElem_mem _))
   obtain ⟨x, hx⟩ : ∃ x, x = z[i] := ⟨_, rfl⟩
   rw [← hx] at hrow hsx hkz hlx
   have htk := rtakes_walk x.op
   generalize rtI (takesF x.op) = r at htk hlx
   have hkl : (varL k).length ≤ 10 := varL_ten (by omega)
   have hzgl : (varL (zigI x.n).toNat).length ≤ 10 := varL_ten (zig_le hsx.1)
   have hsl : (varL x.s.size).length ≤ 10 := varL_ten (by have := hsx.2; omega)
   have hs2 := hsx.2
   have hks := sb_size (varL k)
   have hzs := sb_size (varL (zigI x.n).toNat)
   have hss := sb_size (varL x.s.size)
   refine W_skip (W_seq (W_block (W_seq (W_region (L_r (r_ms rfl) (L_r (r_mv) (L_r (r_mi rfl) ?_)))))))
   refine L_r (r_ix Tryz.underlying40 (show _ = some 3 from rfl) (by conv => lhs; whnf) rfl Sl.au) ?_
   refine L_r (r_fieldSl Tryz.underlying54 rfl (show _ = some 1 from rfl) rfl (show _ = 0 from rfl) (Nat.add_zero _) rfl) ?_
   refine L_r (r_loadSl rfl rfl Sl.au (by first | exact hrow 0 _ rfl | exact hrow 1 _ rfl | exact hrow 2 _ rfl)) ?_
   refine L_call (.plain rfl) rfl rfl (r_call Tryz.func101 rfl rfl rfl (by rfl)) (rnumber_walk x.op _) ?_
   rintro v21 w3 ⟨rfl, c3⟩
   have hz3 := c3.size
   rw [hkz]
   refine L_r (r_conv Tryz.underlying3 Tryz.underlying80 rfl (by first | exact wr_u64 (by omega) | rfl)) ?_
   refine L_call (.plain rfl) rfl rfl (r_call Tryz.func100 rfl rfl rfl (by rfl)) (rvar_walk k _ (by omega)) ?_
   rintro v23 w4 ⟨rfl, c4⟩
   have hz4 := c4.size
   refine L_r (r_adds rfl rfl (by first | omega | (simp only [ByteArray.size_append]; omega))) (L_r (r_as rfl) (L_nil (W_seq (W_region (L_r (r_mv) (L_r (r_mi rfl) ?_))))))
   refine L_r (r_ix Tryz.underlying40 (show _ = some 3 from rfl) (by conv => lhs; whnf) rfl Sl.au) ?_
   refine L_r (r_fieldSl Tryz.underlying54 rfl (show _ = some 1 from rfl) rfl (show _ = 0 from rfl) (Nat.add_zero _) rfl) ?_
   refine L_r (r_loadSl rfl rfl Sl.au (by first | exact hrow 0 _ rfl | exact hrow 1 _ rfl | exact hrow 2 _ rfl)) ?_
   refine L_call (.plain rfl) rfl rfl (r_call Tryz.func102 rfl rfl rfl (by rfl)) (htk _) ?_
   rintro v30 w5 ⟨rfl, c5⟩
   have hz5 := c5.size
   refine L_nil (W_block (W_seq (W_region (L_r (r_eql rfl rfl) (L_r (r_ab rfl) (L_nil ?_))))))
   refine W_if rfl (fun h31 => ?_) (fun h31 => ?_)
   ·
    refine W_region (L_r (r_ms rfl) (L_r (r_mv) (L_r (r_mi rfl) ?_)))
    refine L_r (r_ix Tryz.underlying40 (show _ = some 3 from rfl) (by conv => lhs; whnf) rfl Sl.au) ?_
    refine L_r (r_fieldSl Tryz.underlying54 rfl (show _ = some 1 from rfl) rfl (show _ = 1 from rfl) rfl rfl) ?_
    refine L_r (r_loadSl rfl rfl Sl.au (by first | exact hrow 0 _ rfl | exact hrow 1 _ rfl | exact hrow 2 _ rfl)) ?_
    refine L_call (.plain rfl) rfl rfl (r_call Tryz.func103 rfl rfl rfl (by rfl)) (rint_walk x.n _ hsx.1) ?_
    rintro v39 w6 ⟨rfl, c6⟩
    have hz6 := c6.size
    refine L_r (r_adds rfl rfl (by first | omega | (simp only [ByteArray.size_append]; omega))) (L_r (r_as rfl) (L_nil (W_region (L_r (r_mi rfl) ?_))))
    refine L_r (r_add rfl rfl (by first | exact wr_i64 (by omega) | rfl)) (L_r (r_ai rfl) (L_nil ?_))
    refine ⟨⟨fx2, trivial⟩, _, ?_, i + 1, B ++ insB x, rfl, (by refine congrArg Value.string ?_; rw [hlx]; first | (rw [if_pos (by assumption)]; simp only [sb_append, ByteArray.append_assoc]; done) | (rw [if_neg (by assumption), if_pos (by assumption), textL]; simp only [sb_append, sb_bs, ByteArray.append_assoc]; done) | (rw [if_neg (by assumption), if_neg (by assumption)]; simp only [sb_append, ByteArray.append_assoc]; done)), ?_, rfl⟩
    · omega
    exact ⟨by omega, by rw [put_take hil, ← List.append_assoc, ← hB, hx], Ch.au⟩
   ·
    refine W_seq (W_region (L_r (r_eql rfl rfl) (L_r (r_ab rfl) (L_nil ?_))))
    refine W_if rfl (fun h41 => ?_) (fun h41 => ?_)
    ·
     refine W_region (L_r (r_ms rfl) (L_r (r_mv) (L_r (r_mi rfl) ?_)))
     refine L_r (r_ix Tryz.underlying40 (show _ = some 3 from rfl) (by conv => lhs; whnf) rfl Sl.au) ?_
     refine L_r (r_fieldSl Tryz.underlying54 rfl (show _ = some 1 from rfl) rfl (show _ = 2 from rfl) rfl rfl) ?_
     refine L_r (r_loadSl rfl rfl Sl.au (by first | exact hrow 0 _ rfl | exact hrow 1 _ rfl | exact hrow 2 _ rfl)) ?_
     refine L_call (.plain rfl) rfl rfl (r_call Tryz.func36 rfl rfl rfl (by rfl)) (rtext_walk x.s _ (by omega)) ?_
     rintro v49 w7 ⟨rfl, c7⟩
     have hz7 := c7.size
     refine L_r (r_adds rfl rfl (by first | omega | (simp only [ByteArray.size_append]; omega))) (L_r (r_as rfl) (L_nil (W_region (L_r (r_mi rfl) ?_))))
     refine L_r (r_add rfl rfl (by first | exact wr_i64 (by omega) | rfl)) (L_r (r_ai rfl) (L_nil ?_))
     refine ⟨⟨fx2, trivial⟩, _, ?_, i + 1, B ++ insB x, rfl, (by refine congrArg Value.string ?_; rw [hlx]; first | (rw [if_pos (by assumption)]; simp only [sb_append, ByteArray.append_assoc]; done) | (rw [if_neg (by assumption), if_pos (by assumption), textL]; simp only [sb_append, sb_bs, ByteArray.append_assoc]; done) | (rw [if_neg (by assumption), if_neg (by assumption)]; simp only [sb_append, ByteArray.append_assoc]; done)), ?_, rfl⟩
     · omega
     exact ⟨by omega, by rw [put_take hil, ← List.append_assoc, ← hB, hx], Ch.au⟩
    ·
     refine W_skip (W_region (L_r (r_mi rfl) ?_))
     refine L_r (r_add rfl rfl (by first | exact wr_i64 (by omega) | rfl)) (L_r (r_ai rfl) (L_nil ?_))
     refine ⟨⟨fx2, trivial⟩, _, ?_, i + 1, B ++ insB x, rfl, (by refine congrArg Value.string ?_; rw [hlx]; first | (rw [if_pos (by assumption)]; simp only [sb_append, ByteArray.append_assoc]; done) | (rw [if_neg (by assumption), if_pos (by assumption), textL]; simp only [sb_append, sb_bs, ByteArray.append_assoc]; done) | (rw [if_neg (by assumption), if_neg (by assumption)]; simp only [sb_append, ByteArray.append_assoc]; done)), ?_, rfl⟩
     · omega
     exact ⟨by omega, by rw [put_take hil, ← List.append_assoc, ← hB, hx], Ch.au⟩
  ·
   refine W_exit ?_
   repeat (first | refine blk_hit ?_ | refine blk_miss rfl ?_)
   refine W_seq (W_region (L_r (r_ms rfl) (L_r (r_as rfl) (L_nil (W_ret ?_)))))
   refine ret1 (v := .string _) rfl rfl ?_
   exact ⟨by unfold putL; rw [hB, List.take_of_length_le (by omega)], Ch.au⟩
instance : Inhabited Ins := ⟨⟨ByteArray.empty, 0, ByteArray.empty⟩⟩
end Go.Proofs.YthpknpfhpkkheaaGreatDoor
