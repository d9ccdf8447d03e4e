/- What is written is read as itself: PackBack, walked. -/
import Derived.Test.YtikpcphlmlgojaaDoorPackS
namespace Go.Proofs.YtikpcphlmlgojaaDoor
open Go Go.RowKit
set_option linter.unusedVariables false
set_option linter.unusedSimpArgs false
/-- All that is written of one. -/
def allL (f : Fld) : List UInt8 := varL f.n ++ (varL (zigI f.i).toNat ++ (flagL f.yes ++ textL f.s))
theorem allL_le (f : Fld) (h : f.Ok) (hs : f.s.size ≤ 300) : (allL f).length ≤ 331 := by
  obtain ⟨h1, h2⟩ := h
  have e1 := varL_ten h1
  have e2 := zigI_range f.i h2
  have e3 := varL_ten (v := (zigI f.i).toNat) (by omega)
  have e4 := varL_ten (v := f.s.size) (by omega)
  have e5 := flagL_len f.yes
  unfold allL textL
  simp only [List.length_append, bs_length]
  omega
section
variable {base b : Nat} {v : Value} {l m rest : List UInt8} {a : Nat} {w : World}
theorem drop_more (h : l.drop a = m ++ rest) : l.drop (a + m.length) = rest := by
  rw [← List.drop_drop, h, List.drop_left]
theorem rdnum_b (hR : RdAt base w b v l a 0) (hb : base ≤ w.heap.size) (n : Nat) (hn : n ≤ 18446744073709551615) (hl : l.drop a = varL n ++ rest) :
    Does Tryd.prog 28 #[.pointer (some ⟨b, 0, none⟩)] w fun r w' => r = .int .u64 (n : Int) ∧ RdAt base w' b v l (a + (varL n).length) 0 ∧ Ch (fun j => j = b) w w' :=
  rdnum_to hR hb n _ 0 (by rw [hl, numL_v n rest hn]; rfl) (by rw [hl, numL_v n rest hn]; rfl)
theorem rdint_b (hR : RdAt base w b v l a 0) (hb : base ≤ w.heap.size) (n : Int) (hn : -9223372036854775808 ≤ n ∧ n ≤ 9223372036854775807) (hl : l.drop a = varL (zigI n).toNat ++ rest) :
    Does Tryd.prog 29 #[.pointer (some ⟨b, 0, none⟩)] w fun r w' => r = .int .i64 n ∧ RdAt base w' b v l (a + (varL (zigI n).toNat).length) 0 ∧ Ch (fun j => j = b) w w' := by
  have hz := zigI_range n hn
  have e := numL_v (zigI n).toNat rest (by omega)
  refine rdint_to hR hb n _ 0 ?_ (by rw [hl, e]; rfl)
  rw [hl, e]
  show zagI (((zigI n).toNat : Nat) : Int) = n
  rw [show (((zigI n).toNat : Nat) : Int) = zigI n by omega, zagI_zigI]
theorem rdflag_b (hR : RdAt base w b v l a 0) (hb : base ≤ w.heap.size) (y : Bool) (hl : l.drop a = flagL y ++ rest) :
    Does Tryd.prog 30 #[.pointer (some ⟨b, 0, none⟩)] w fun r w' => r = .bool y ∧ RdAt base w' b v l (a + (flagL y).length) 0 ∧ Ch (fun j => j = b) w w' :=
  rdflag_to hR hb y _ 0 (by rw [hl]; cases y <;> rfl) (by rw [hl]; cases y <;> rfl)
theorem rdtext_b (hR : RdAt base w b v l a 0) (hT : Tabs base w) (hb : base ≤ w.heap.size) (s : ByteArray) (hs : s.size ≤ 300) (hv : Lib.validD (bs s) = true) (hl : l.drop a = textL s ++ rest) :
    Does Tryd.prog 31 #[.pointer (some ⟨b, 0, none⟩)] w fun r w' => r = .string s ∧ RdAt base w' b v l (a + (textL s).length) 0 ∧ Ch (fun j => j = b) w w' := by
  have e := textR_of s rest (by omega)
  rw [if_neg (by omega), if_pos hv] at e
  exact (rdtext_to hR hT hb (bs s) _ 0 (by rw [hl, e]; rfl) (by rw [hl, e]; rfl)).mono fun r w' ⟨h1, h2, h3⟩ => ⟨by rw [h1, sb_bs], h2, h3⟩
end
theorem flag_one (y : Bool) : [y].flatMap flagL = flagL y := by simp
set_option maxHeartbeats 1000000 in
set_option maxRecDepth 100000 in
theorem PackBack_walk (v0 : Value) (z : List Fld) (w0 : World) (y0 : Sl w0 v0 6 z.length (cellsF z) ∧ ∀ f ∈ z, f.Ok) (hT : Tabs w0.heap.size w0) : Does Tryd.prog 6 #[v0] w0 (fun r w' => r = .bool true ∧ Nw w0 w') := by
  obtain ⟨hs0, hok⟩ := y0
  refine fn_of (n := 135) (args := [v0]) Tryd.func6 rfl rfl rfl ?_
  refine W_seq ?_
  refine W_region ?_
  refine L_run (.plain rfl) rfl rfl (r_assign (v := .bool _) rfl) ?_
  refine L_nil ?_
  refine W_seq ?_
  refine W_seq ?_
  refine W_region ?_
  refine L_run (.plain rfl) rfl rfl (r_move (by conv => lhs; whnf)) ?_
  refine L_run (.plain rfl) rfl rfl (r_lenSl Tryd.underlying31 (by conv => lhs; whnf) (by (exact Sl.to (by first | assumption | exact Sl.own (by assumption) | exact Mu.sl (by assumption) | exact Ow.sl (by assumption)) (fun i hi => by (repeat (first | exact Sm.refl _ _ | (refine Sm.stepT (by assumption) (by intro hlt hsm; exact not_no) ?_))))))) ?_
  refine L_run (.plain rfl) rfl rfl (r_gtr rfl rfl) ?_
  refine L_nil ?_
  refine W_if rfl (fun h11 => ?_) (fun h11 => ?_)
  · refine W_seq ?_
    refine W_region ?_
    refine L_call (.plain rfl) rfl rfl (r_call Tryd.func11 rfl rfl rfl (by rfl)) (awake_walk w0.heap.size _ (hT.nw (by (repeat (first | exact Ch.refl _ | assumption | (refine Ch.fresh ?_ (by assumption) (by intro i hi he; first | exact he | (exfalso; have he2 : i = _ := he; omega) | (exfalso; have := he.1; omega)))))) (by omega)) (by omega)) ?_
    rintro v12 w1 ⟨rfl, c1⟩
    have hz1 := c1.size
    refine L_run (.plain rfl) rfl rfl (r_assign (v := .bool _) rfl) ?_
    refine L_nil ?_
    refine W_ret ?_
    refine ret1 (v := .bool _) rfl rfl ?_
    refine ⟨?_, by (repeat (first | exact Ch.refl _ | assumption | (refine Ch.fresh ?_ (by assumption) (by intro i hi he; first | exact he | (exfalso; have he2 : i = _ := he; omega) | (exfalso; have := he.1; omega)))))⟩
    first
    | exact congrArg Value.bool (decide_eq_true (by omega))
    | exact rfl
  · refine W_skip ?_
    refine W_seq ?_
    refine W_region ?_
    refine L_call (.plain rfl) rfl rfl (r_call Tryd.func17 rfl rfl rfl (by rfl)) (write_walk _) ?_
    rintro v13 w2 ⟨b1, rfl, hW0, c2⟩
    have hz2 := c2.size
    have hlo0 := hW0.lo
    refine L_run (.plain rfl) rfl rfl (r_assign (v := .pointer _) rfl) ?_
    refine L_nil ?_
    refine W_seq ?_
    refine W_seq ?_
    refine W_region ?_
    refine L_call (.plain rfl) rfl rfl (r_call Tryd.func11 rfl rfl rfl (by rfl)) (awake_walk w0.heap.size _ (hT.nw (by (repeat (first | exact Ch.refl _ | assumption | (refine Ch.fresh ?_ (by assumption) (by intro i hi he; first | exact he | (exfalso; have he2 : i = _ := he; omega) | (exfalso; have := he.1; omega)))))) (by omega)) (by omega)) ?_
    rintro v14 w3 ⟨rfl, c3⟩
    have hz3 := c3.size
    refine L_run (.plain rfl) rfl rfl (r_not rfl) ?_
    refine L_as (v := .bool _) (v' := .bool false) 15 rfl (congrArg Value.bool (by simp)) ?_
    refine L_run (.plain rfl) rfl rfl (r_move (v := .bool _) rfl) ?_
    refine L_run (.yes 2 false rfl rfl) rfl rfl (r_move (v := .pointer _) rfl) ?_
    refine L_run (.yes 2 false rfl rfl) rfl rfl (r_eqpnil Tryd.underlying32 rfl rfl) ?_
    refine L_as (v := .bool _) (v' := .bool false) 18 rfl (congrArg Value.bool (by simp)) ?_
    refine L_run (.plain rfl) rfl rfl (r_pick_f (v := .bool _) rfl rfl) ?_
    refine L_nil ?_
    refine W_false rfl ?_
    refine W_skip ?_
    refine W_seq ?_
    refine W_seq ?_
    refine W_region ?_
    refine L_run (.plain rfl) rfl rfl (r_assign (v := .int _ _) rfl) ?_
    refine L_nil ?_
    refine W_block ?_
    refine W_loopF [0, 3] (fun mz_ f W => ∃ (i : Nat) (B : List UInt8), f 4 = .int .i64 i ∧ (i ≤ z.length ∧ B = (z.take i).flatMap allL ∧ B.length ≤ 331 * i ∧ (∀ f ∈ z.take i, f.s.size ≤ 300 ∧ Lib.validD (bs f.s) = true) ∧ WrAt w0.heap.size W b1 B ∧ Nw w0 W) ∧ mz_ = z.length - i) ?_ ?_
    · refine ⟨_, 0, [], rfl, ?_, rfl⟩
      exact ⟨by omega, by simp, by simp, by simp, hW0.nw (by (repeat (first | exact Ch.refl _ | assumption | (refine Ch.fresh ?_ (by assumption) (by intro i hi he; first | exact he | (exfalso; have he2 : i = _ := he; omega) | (exfalso; have := he.1; omega)))))), by (repeat (first | exact Ch.refl _ | assumption | (refine Ch.fresh ?_ (by assumption) (by intro i hi he; first | exact he | (exfalso; have he2 : i = _ := he; omega) | (exfalso; have := he.1; omega)))))⟩
    rintro m0 g0 w4 ⟨i, B, hf4, hR0, rfl⟩
    refine W_as 4 hf4 rfl ?_
    clear hf4
    obtain ⟨hi, hB, hBl, hgood, hWi, hnw⟩ := hR0
    have hz := hnw.size
    have hsi := Sl.nw hnw hs0
    refine W_seq ?_
    refine W_seq ?_
    refine W_region ?_
    refine L_run (.plain rfl) rfl rfl (r_move (v := .int _ _) rfl) ?_
    refine L_run (.plain rfl) rfl rfl (r_move (by conv => lhs; whnf)) ?_
    refine L_run (.plain rfl) rfl rfl (r_lenSl Tryd.underlying31 (by conv => lhs; whnf) (by (exact Sl.to (by first | assumption | exact Sl.own (by assumption) | exact Mu.sl (by assumption) | exact Ow.sl (by assumption)) (fun i hi => by (repeat (first | exact Sm.refl _ _ | (refine Sm.stepT (by assumption) (by intro hlt hsm; exact not_no) ?_))))))) ?_
    refine L_run (.plain rfl) rfl rfl (r_lss rfl rfl) ?_
    refine L_nil ?_
    refine W_if rfl (fun h23 => ?_) (fun h23 => ?_)
    · have hin : i < z.length := by omega
      have hoki := hok z[i] (List.getElem_mem hin)
      obtain ⟨hok1, hok2⟩ := id hoki
      have hten := varL_ten hok1
      have hzg := zigI_range z[i].i hok2
      have hten2 := varL_ten (v := (zigI z[i].i).toNat) (by omega)
      have hf1 := flagL_len z[i].yes
      refine W_skip ?_
      refine W_seq ?_
      refine W_block ?_
      refine W_seq ?_
      refine W_seq ?_
      refine W_region ?_
      refine L_run (.plain rfl) rfl rfl (r_move (by conv => lhs; whnf)) ?_
      refine L_run (.plain rfl) rfl rfl (r_move (v := .int _ _) rfl) ?_
      refine L_run (.plain rfl) rfl rfl (r_idxSl Tryd.underlying31 (show _ = some 6 from rfl) (by conv => lhs; whnf) rfl (by (exact Sl.to (by first | assumption | exact Sl.own (by assumption) | exact Mu.sl (by assumption) | exact Ow.sl (by assumption)) (fun i hi => by (repeat (first | exact Sm.refl _ _ | (refine Sm.stepT (by assumption) (by intro hlt hsm; exact not_no) ?_)))))) (by omega) (by omega) (by conv => lhs; (try simp only [Nat.mul_one, Nat.zero_add, Int.toNat_natCast, Int.toNat_zero, Int.reduceToNat, Nat.reduceMul, Nat.reduceAdd]))) ?_
      refine L_run (.plain rfl) rfl rfl (r_fieldSl Tryd.underlying35 rfl (show _ = some 1 from rfl) rfl (show _ = 5 from rfl) rfl rfl) ?_
      refine L_run (.plain rfl) rfl rfl (r_loadSl rfl rfl (by (exact Sl.to (by first | assumption | exact Sl.own (by assumption) | exact Mu.sl (by assumption) | exact Ow.sl (by assumption)) (fun i hi => by (repeat (first | exact Sm.refl _ _ | (refine Sm.stepT (by assumption) (by intro hlt hsm; exact not_no) ?_)))))) (by first | assumption | exact cellsF_row z i (by omega) _ _ rfl | exact cellsF_row z k (by omega) _ _ rfl | (conv => lhs; simp only [List.getElem?_toArray, List.getElem?_cons_succ, List.getElem?_cons_zero]))) ?_
      refine L_run (.plain rfl) rfl rfl (r_lens Tryd.underlying9 rfl) ?_
      refine L_run (.plain rfl) rfl rfl (r_gtr rfl rfl) ?_
      refine L_run (.plain rfl) rfl rfl (r_move (v := .bool _) rfl) ?_
      refine L_case (d := 33) rfl (fun h33 => ?_) (fun h33 => ?_)
      · refine L_pass rfl rfl rfl rfl rfl ?_
        refine L_pass rfl rfl rfl rfl rfl ?_
        refine L_pass rfl rfl rfl rfl rfl ?_
        refine L_pass rfl rfl rfl rfl rfl ?_
        refine L_pass rfl rfl rfl rfl rfl ?_
        refine L_pass rfl rfl rfl rfl rfl ?_
        refine L_pass rfl rfl rfl rfl rfl ?_
        refine L_run (.plain rfl) rfl rfl (r_pick_t (v := .bool _) rfl rfl) ?_
        refine L_nil ?_
        refine W_true rfl ?_
        refine W_seq ?_
        refine W_region ?_
        refine L_run (.plain rfl) rfl rfl (r_assign (v := .bool _) rfl) ?_
        refine L_nil ?_
        refine W_ret ?_
        refine ret1 (v := .bool _) rfl rfl ?_
        refine ⟨?_, by (repeat (first | exact Ch.refl _ | assumption | (refine Ch.fresh ?_ (by assumption) (by intro i hi he; first | exact he | (exfalso; have he2 : i = _ := he; omega) | (exfalso; have := he.1; omega)))))⟩
        first
        | exact congrArg Value.bool (decide_eq_true (by omega))
        | exact rfl
      · refine L_run (.yes 7 false rfl rfl) rfl rfl (r_move (by conv => lhs; whnf)) ?_
        refine L_run (.yes 7 false rfl rfl) rfl rfl (r_move (v := .int _ _) rfl) ?_
        refine L_run (.yes 7 false rfl rfl) rfl rfl (r_idxSl Tryd.underlying31 (show _ = some 6 from rfl) (by conv => lhs; whnf) rfl (by (exact Sl.to (by first | assumption | exact Sl.own (by assumption) | exact Mu.sl (by assumption) | exact Ow.sl (by assumption)) (fun i hi => by (repeat (first | exact Sm.refl _ _ | (refine Sm.stepT (by assumption) (by intro hlt hsm; exact not_no) ?_)))))) (by omega) (by omega) (by conv => lhs; (try simp only [Nat.mul_one, Nat.zero_add, Int.toNat_natCast, Int.toNat_zero, Int.reduceToNat, Nat.reduceMul, Nat.reduceAdd]))) ?_
        refine L_run (.yes 7 false rfl rfl) rfl rfl (r_fieldSl Tryd.underlying35 rfl (show _ = some 1 from rfl) rfl (show _ = 5 from rfl) rfl rfl) ?_
        refine L_run (.yes 7 false rfl rfl) rfl rfl (r_loadSl rfl rfl (by (exact Sl.to (by first | assumption | exact Sl.own (by assumption) | exact Mu.sl (by assumption) | exact Ow.sl (by assumption)) (fun i hi => by (repeat (first | exact Sm.refl _ _ | (refine Sm.stepT (by assumption) (by intro hlt hsm; exact not_no) ?_)))))) (by first | assumption | exact cellsF_row z i (by omega) _ _ rfl | exact cellsF_row z k (by omega) _ _ rfl | (conv => lhs; simp only [List.getElem?_toArray, List.getElem?_cons_succ, List.getElem?_cons_zero]))) ?_
        refine L_call (.yes 7 false rfl rfl) rfl rfl (r_call Tryd.func26 rfl rfl rfl (by rfl)) (whole_walk z[i].s _) ?_
        rintro v39 w5 ⟨rfl, c5⟩
        have hz5 := c5.size
        refine L_run (.yes 7 false rfl rfl) rfl rfl (r_not rfl) ?_
        refine L_run (.plain rfl) rfl rfl (r_pick_f (v := .bool _) rfl rfl) ?_
        refine L_nil ?_
        refine W_bool rfl (fun h41 => ?_) (fun h41 => ?_)
        · refine W_seq ?_
          refine W_region ?_
          refine L_run (.plain rfl) rfl rfl (r_assign (v := .bool _) rfl) ?_
          refine L_nil ?_
          refine W_ret ?_
          refine ret1 (v := .bool _) rfl rfl ?_
          refine ⟨?_, by (repeat (first | exact Ch.refl _ | assumption | (refine Ch.fresh ?_ (by assumption) (by intro i hi he; first | exact he | (exfalso; have he2 : i = _ := he; omega) | (exfalso; have := he.1; omega)))))⟩
          first
          | exact congrArg Value.bool (decide_eq_true (by omega))
          | exact rfl
        · refine W_skip ?_
          refine W_seq ?_
          have hle := allL_le z[i] hoki (by omega)
          have hten3 := varL_ten (v := z[i].s.size) (by omega)
          refine W_region ?_
          refine L_run (.plain rfl) rfl rfl (r_move (v := .pointer _) rfl) ?_
          refine L_run (.plain rfl) rfl rfl (r_move (by conv => lhs; whnf)) ?_
          refine L_run (.plain rfl) rfl rfl (r_move (v := .int _ _) rfl) ?_
          refine L_run (.plain rfl) rfl rfl (r_idxSl Tryd.underlying31 (show _ = some 6 from rfl) (by conv => lhs; whnf) rfl (by (exact Sl.to (by first | assumption | exact Sl.own (by assumption) | exact Mu.sl (by assumption) | exact Ow.sl (by assumption)) (fun i hi => by (repeat (first | exact Sm.refl _ _ | (refine Sm.stepT (by assumption) (by intro hlt hsm; exact not_no) ?_)))))) (by omega) (by omega) (by conv => lhs; (try simp only [Nat.mul_one, Nat.zero_add, Int.toNat_natCast, Int.toNat_zero, Int.reduceToNat, Nat.reduceMul, Nat.reduceAdd]))) ?_
          refine L_run (.plain rfl) rfl rfl (r_fieldSl Tryd.underlying35 rfl (show _ = some 1 from rfl) rfl (show _ = 2 from rfl) rfl rfl) ?_
          refine L_run (.plain rfl) rfl rfl (r_loadSl rfl rfl (by (exact Sl.to (by first | assumption | exact Sl.own (by assumption) | exact Mu.sl (by assumption) | exact Ow.sl (by assumption)) (fun i hi => by (repeat (first | exact Sm.refl _ _ | (refine Sm.stepT (by assumption) (by intro hlt hsm; exact not_no) ?_)))))) (by first | assumption | exact cellsF_row z i (by omega) _ _ rfl | exact cellsF_row z k (by omega) _ _ rfl | (conv => lhs; simp only [List.getElem?_toArray, List.getElem?_cons_succ, List.getElem?_cons_zero]))) ?_
          refine L_build1o [.int _ _] Tryd.underlying55 rfl rfl rfl (.plain rfl) rfl (by rfl) (by rfl) (by rfl) (fun v48 w6 ho48 eb6 hs6 c6 => ?_)
          refine L_call (.plain rfl) rfl rfl (r_call Tryd.func18 rfl rfl rfl (by rfl)) (wnum_walk _ _ b1 B _ [z[i].n] _ (hWi.nw (by (repeat (first | exact Ch.refl _ | assumption | (refine Ch.fresh ?_ (by assumption) (by intro i hi he; first | exact he | (exfalso; have he2 : i = _ := he; omega) | (exfalso; have := he.1; omega))))))) (ow_lit ho48) (by intro x hx; rw [List.mem_singleton] at hx; omega) (by show B.length + 10 * 1 ≤ _; omega) (by omega)) ?_
          rintro v49 w7 ⟨rfl, hW1, c7⟩
          have hz7 := c7.size
          rw [List.flatMap_singleton] at hW1
          have hs1 := Sl.nw (by (repeat (first | exact Ch.refl _ | assumption | (refine Ch.fresh ?_ (by assumption) (by intro i hi he; first | exact he | (exfalso; have he2 : i = _ := he; omega) | (exfalso; have := he.1; omega))))) : Nw w0 w7) hs0
          refine L_nil ?_
          refine W_seq ?_
          refine W_region ?_
          refine L_run (.plain rfl) rfl rfl (r_move (v := .pointer _) rfl) ?_
          refine L_run (.plain rfl) rfl rfl (r_move (by conv => lhs; whnf)) ?_
          refine L_run (.plain rfl) rfl rfl (r_move (v := .int _ _) rfl) ?_
          refine L_run (.plain rfl) rfl rfl (r_idxSl Tryd.underlying31 (show _ = some 6 from rfl) (by conv => lhs; whnf) rfl (by (exact Sl.to (by first | assumption | exact Sl.own (by assumption) | exact Mu.sl (by assumption) | exact Ow.sl (by assumption)) (fun i hi => by (repeat (first | exact Sm.refl _ _ | (refine Sm.stepT (by assumption) (by intro hlt hsm; exact not_no) ?_)))))) (by omega) (by omega) (by conv => lhs; (try simp only [Nat.mul_one, Nat.zero_add, Int.toNat_natCast, Int.toNat_zero, Int.reduceToNat, Nat.reduceMul, Nat.reduceAdd]))) ?_
          refine L_run (.plain rfl) rfl rfl (r_fieldSl Tryd.underlying35 rfl (show _ = some 1 from rfl) rfl (show _ = 3 from rfl) rfl rfl) ?_
          refine L_run (.plain rfl) rfl rfl (r_loadSl rfl rfl (by (exact Sl.to (by first | assumption | exact Sl.own (by assumption) | exact Mu.sl (by assumption) | exact Ow.sl (by assumption)) (fun i hi => by (repeat (first | exact Sm.refl _ _ | (refine Sm.stepT (by assumption) (by intro hlt hsm; exact not_no) ?_)))))) (by first | assumption | exact cellsF_row z i (by omega) _ _ rfl | exact cellsF_row z k (by omega) _ _ rfl | (conv => lhs; simp only [List.getElem?_toArray, List.getElem?_cons_succ, List.getElem?_cons_zero]))) ?_
          refine L_build1o [.int _ _] Tryd.underlying68 rfl rfl rfl (.plain rfl) rfl (by rfl) (by rfl) (by rfl) (fun v56 w8 ho56 eb8 hs8 c8 => ?_)
          refine L_call (.plain rfl) rfl rfl (r_call Tryd.func19 rfl rfl rfl (by rfl)) (wint_walk _ _ b1 _ _ [z[i].i] _ (hW1.nw (by (repeat (first | exact Ch.refl _ | assumption | (refine Ch.fresh ?_ (by assumption) (by intro i hi he; first | exact he | (exfalso; have he2 : i = _ := he; omega) | (exfalso; have := he.1; omega))))))) (ow_lit ho56) (by intro x hx; rw [List.mem_singleton] at hx; rw [hx]; exact hok2) (by rw [List.length_append]; show _ + 10 * 1 ≤ _; omega) (by omega)) ?_
          rintro v57 w9 ⟨rfl, hW2, c9⟩
          have hz9 := c9.size
          rw [List.flatMap_singleton] at hW2
          have hs2 := Sl.nw (by (repeat (first | exact Ch.refl _ | assumption | (refine Ch.fresh ?_ (by assumption) (by intro i hi he; first | exact he | (exfalso; have he2 : i = _ := he; omega) | (exfalso; have := he.1; omega))))) : Nw w0 w9) hs0
          refine L_nil ?_
          refine W_seq ?_
          refine W_region ?_
          refine L_run (.plain rfl) rfl rfl (r_move (v := .pointer _) rfl) ?_
          refine L_run (.plain rfl) rfl rfl (r_move (by conv => lhs; whnf)) ?_
          refine L_run (.plain rfl) rfl rfl (r_move (v := .int _ _) rfl) ?_
          refine L_run (.plain rfl) rfl rfl (r_idxSl Tryd.underlying31 (show _ = some 6 from rfl) (by conv => lhs; whnf) rfl (by (exact Sl.to (by first | assumption | exact Sl.own (by assumption) | exact Mu.sl (by assumption) | exact Ow.sl (by assumption)) (fun i hi => by (repeat (first | exact Sm.refl _ _ | (refine Sm.stepT (by assumption) (by intro hlt hsm; exact not_no) ?_)))))) (by omega) (by omega) (by conv => lhs; (try simp only [Nat.mul_one, Nat.zero_add, Int.toNat_natCast, Int.toNat_zero, Int.reduceToNat, Nat.reduceMul, Nat.reduceAdd]))) ?_
          refine L_run (.plain rfl) rfl rfl (r_fieldSl Tryd.underlying35 rfl (show _ = some 1 from rfl) rfl (show _ = 4 from rfl) rfl rfl) ?_
          refine L_run (.plain rfl) rfl rfl (r_loadSl rfl rfl (by (exact Sl.to (by first | assumption | exact Sl.own (by assumption) | exact Mu.sl (by assumption) | exact Ow.sl (by assumption)) (fun i hi => by (repeat (first | exact Sm.refl _ _ | (refine Sm.stepT (by assumption) (by intro hlt hsm; exact not_no) ?_)))))) (by first | assumption | exact cellsF_row z i (by omega) _ _ rfl | exact cellsF_row z k (by omega) _ _ rfl | (conv => lhs; simp only [List.getElem?_toArray, List.getElem?_cons_succ, List.getElem?_cons_zero]))) ?_
          refine L_build1o [.bool _] Tryd.underlying69 rfl rfl rfl (.plain rfl) rfl (by rfl) (by rfl) (by rfl) (fun v64 w10 ho64 eb10 hs10 c10 => ?_)
          refine L_call (.plain rfl) rfl rfl (r_call Tryd.func21 rfl rfl rfl (by rfl)) (wflag_walk _ _ b1 _ _ [z[i].yes] _ (hW2.nw (by (repeat (first | exact Ch.refl _ | assumption | (refine Ch.fresh ?_ (by assumption) (by intro i hi he; first | exact he | (exfalso; have he2 : i = _ := he; omega) | (exfalso; have := he.1; omega))))))) (ow_lit ho64) (by simp only [List.length_append]; show _ + 1 ≤ _; omega) (by omega)) ?_
          rintro v65 w11 ⟨rfl, hW3, c11⟩
          have hz11 := c11.size
          rw [flag_one] at hW3
          have hs3 := Sl.nw (by (repeat (first | exact Ch.refl _ | assumption | (refine Ch.fresh ?_ (by assumption) (by intro i hi he; first | exact he | (exfalso; have he2 : i = _ := he; omega) | (exfalso; have := he.1; omega))))) : Nw w0 w11) hs0
          refine L_nil ?_
          refine W_region ?_
          refine L_run (.plain rfl) rfl rfl (r_move (v := .pointer _) rfl) ?_
          refine L_run (.plain rfl) rfl rfl (r_move (by conv => lhs; whnf)) ?_
          refine L_run (.plain rfl) rfl rfl (r_move (v := .int _ _) rfl) ?_
          refine L_run (.plain rfl) rfl rfl (r_idxSl Tryd.underlying31 (show _ = some 6 from rfl) (by conv => lhs; whnf) rfl (by (exact Sl.to (by first | assumption | exact Sl.own (by assumption) | exact Mu.sl (by assumption) | exact Ow.sl (by assumption)) (fun i hi => by (repeat (first | exact Sm.refl _ _ | (refine Sm.stepT (by assumption) (by intro hlt hsm; exact not_no) ?_)))))) (by omega) (by omega) (by conv => lhs; (try simp only [Nat.mul_one, Nat.zero_add, Int.toNat_natCast, Int.toNat_zero, Int.reduceToNat, Nat.reduceMul, Nat.reduceAdd]))) ?_
          refine L_run (.plain rfl) rfl rfl (r_fieldSl Tryd.underlying35 rfl (show _ = some 1 from rfl) rfl (show _ = 5 from rfl) rfl rfl) ?_
          refine L_run (.plain rfl) rfl rfl (r_loadSl rfl rfl (by (exact Sl.to (by first | assumption | exact Sl.own (by assumption) | exact Mu.sl (by assumption) | exact Ow.sl (by assumption)) (fun i hi => by (repeat (first | exact Sm.refl _ _ | (refine Sm.stepT (by assumption) (by intro hlt hsm; exact not_no) ?_)))))) (by first | assumption | exact cellsF_row z i (by omega) _ _ rfl | exact cellsF_row z k (by omega) _ _ rfl | (conv => lhs; simp only [List.getElem?_toArray, List.getElem?_cons_succ, List.getElem?_cons_zero]))) ?_
          refine L_build1o [.string _] Tryd.underlying70 rfl rfl rfl (.plain rfl) rfl (by rfl) (by rfl) (by rfl) (fun v72 w12 ho72 eb12 hs12 c12 => ?_)
          refine L_call (.plain rfl) rfl rfl (r_call Tryd.func23 rfl rfl rfl (by rfl)) (wtext_walk _ _ b1 _ _ [z[i].s] _ (hW3.nw (by (repeat (first | exact Ch.refl _ | assumption | (refine Ch.fresh ?_ (by assumption) (by intro i hi he; first | exact he | (exfalso; have he2 : i = _ := he; omega) | (exfalso; have := he.1; omega))))))) (ow_lit ho72) (by intro x hx; rw [List.mem_singleton] at hx; rw [hx]; omega) (by show 1 ≤ _; omega) (by simp only [List.length_append]; omega) (by omega)) ?_
          rintro v73 w13 ⟨rfl, hW4, c13⟩
          have hz13 := c13.size
          rw [List.flatMap_singleton] at hW4
          refine L_nil ?_
          refine W_region ?_
          refine L_run (.plain rfl) rfl rfl (r_move (v := .int _ _) rfl) ?_
          refine L_run (.plain rfl) rfl rfl (r_add rfl rfl (by first | exact wr_i64 (by omega) | rfl)) ?_
          refine L_run (.plain rfl) rfl rfl (r_assign (v := .int _ _) rfl) ?_
          refine L_nil ?_
          refine ⟨⟨rfl, rfl, trivial⟩, _, ?_, i + 1, B ++ allL z[i], rfl, ?_, rfl⟩
          · omega
          refine ⟨by omega, ?_, by rw [List.length_append]; omega, ?_, ?_, by (repeat (first | exact Ch.refl _ | assumption | (refine Ch.fresh ?_ (by assumption) (by intro i hi he; first | exact he | (exfalso; have he2 : i = _ := he; omega) | (exfalso; have := he.1; omega)))))⟩
          · rw [List.take_succ_eq_append_getElem (by omega), List.flatMap_append, hB]; simp
          · intro f hf
            rw [List.take_succ_eq_append_getElem (by omega)] at hf
            rcases List.mem_append.1 hf with h | h
            · exact hgood f h
            · rw [List.mem_singleton] at h; rw [h]; exact ⟨by omega, by simpa using h41⟩
          · rw [allL, ← List.append_assoc, ← List.append_assoc, ← List.append_assoc]; exact hW4.nw (by (repeat (first | exact Ch.refl _ | assumption | (refine Ch.fresh ?_ (by assumption) (by intro i hi he; first | exact he | (exfalso; have he2 : i = _ := he; omega) | (exfalso; have := he.1; omega))))))
    · refine W_exit ?_
      repeat (first | refine blk_hit ?_ | refine blk_miss rfl ?_)
      refine W_seq ?_
      refine W_region ?_
      refine L_run (.plain rfl) rfl rfl (r_move (v := .pointer _) rfl) ?_
      refine L_call (.plain rfl) rfl rfl (r_call Tryd.func25 rfl rfl rfl (by rfl)) (bytes_walk _ b1 _ _ (hWi.nw (by (repeat (first | exact Ch.refl _ | assumption | (refine Ch.fresh ?_ (by assumption) (by intro i hi he; first | exact he | (exfalso; have he2 : i = _ := he; omega) | (exfalso; have := he.1; omega))))))) (by omega)) ?_
      rintro v75 w14 ⟨v2, rfl, how, c14⟩
      have hz14 := c14.size
      refine L_call (.plain rfl) rfl rfl (r_call Tryd.func27 rfl rfl rfl (by rfl)) (read_walk _ B _ (by (exact Sl.to (by first | assumption | exact Sl.own (by assumption) | exact Mu.sl (by assumption) | exact Ow.sl (by assumption)) (fun i hi => by (repeat (first | exact Sm.refl _ _ | (refine Sm.stepT (by assumption) (by intro hlt hsm; exact not_no) ?_)))))) (by omega)) ?_
      rintro v76 w15 ⟨b3, v3, rfl, hR3, c15⟩
      have hz15 := c15.size
      have hlo3 := hR3.hb
      refine L_run (.plain rfl) rfl rfl (r_assign (v := .pointer _) rfl) ?_
      refine L_nil ?_
      refine W_seq ?_
      refine W_seq ?_
      refine W_region ?_
      refine L_run (.plain rfl) rfl rfl (r_move (v := .pointer _) rfl) ?_
      refine L_run (.plain rfl) rfl rfl (r_eqpnil Tryd.underlying46 rfl rfl) ?_
      refine L_as (v := .bool _) (v' := .bool false) 78 rfl (congrArg Value.bool (by simp)) ?_
      refine L_nil ?_
      refine W_false rfl ?_
      refine W_skip ?_
      refine W_seq ?_
      refine W_seq ?_
      refine W_region ?_
      refine L_run (.plain rfl) rfl rfl (r_assign (v := .int _ _) rfl) ?_
      refine L_nil ?_
      refine W_block ?_
      refine W_loopF [0, 5] (fun mz_ f W => ∃ (k : Nat) (a : Nat), f 6 = .int .i64 k ∧ (k ≤ z.length ∧ RdAt w0.heap.size W b3 v3 B a 0 ∧ B.drop a = (z.drop k).flatMap allL ∧ Nw w0 W) ∧ mz_ = z.length - k) ?_ ?_
      · refine ⟨_, 0, 0, rfl, ?_, rfl⟩
        exact ⟨by omega, (hR3.down (by omega)).nw (by (repeat (first | exact Ch.refl _ | assumption | (refine Ch.fresh ?_ (by assumption) (by intro i hi he; first | exact he | (exfalso; have he2 : i = _ := he; omega) | (exfalso; have := he.1; omega)))))), by rw [List.drop_zero, List.drop_zero, hB, show i = z.length by omega, List.take_length], by (repeat (first | exact Ch.refl _ | assumption | (refine Ch.fresh ?_ (by assumption) (by intro i hi he; first | exact he | (exfalso; have he2 : i = _ := he; omega) | (exfalso; have := he.1; omega)))))⟩
      rintro m1 g1 w16 ⟨k, a, hf6, hR1, rfl⟩
      refine W_as 6 hf6 rfl ?_
      clear hf6
      obtain ⟨hk, hR, hl, hnw⟩ := hR1
      have hz := hnw.size
      have hsk := Sl.nw hnw hs0
      refine W_seq ?_
      refine W_seq ?_
      refine W_region ?_
      refine L_run (.plain rfl) rfl rfl (r_move (v := .int _ _) rfl) ?_
      refine L_run (.plain rfl) rfl rfl (r_move (by conv => lhs; whnf)) ?_
      refine L_run (.plain rfl) rfl rfl (r_lenSl Tryd.underlying31 (by conv => lhs; whnf) (by (exact Sl.to (by first | assumption | exact Sl.own (by assumption) | exact Mu.sl (by assumption) | exact Ow.sl (by assumption)) (fun i hi => by (repeat (first | exact Sm.refl _ _ | (refine Sm.stepT (by assumption) (by intro hlt hsm; exact not_no) ?_))))))) ?_
      refine L_run (.plain rfl) rfl rfl (r_lss rfl rfl) ?_
      refine L_nil ?_
      refine W_if rfl (fun h82 => ?_) (fun h82 => ?_)
      · have hkn : k < z.length := by omega
        obtain ⟨hok1, hok2⟩ := hok z[k] (List.getElem_mem hkn)
        obtain ⟨hg1, hg2⟩ := hgood z[k] (by rw [show i = z.length by omega, List.take_length]; exact List.getElem_mem hkn)
        have hl1 : B.drop a = varL z[k].n ++ (varL (zigI z[k].i).toNat ++ (flagL z[k].yes ++ (textL z[k].s ++ (z.drop (k + 1)).flatMap allL))) := by rw [hl, List.drop_eq_getElem_cons hkn, List.flatMap_cons, allL]; simp only [List.append_assoc]
        have hl2 := drop_more hl1
        have hl3 := drop_more hl2
        have hl4 := drop_more hl3
        have hl5 := drop_more hl4
        refine W_skip ?_
        refine W_seq ?_
        refine W_block ?_
        refine W_seq ?_
        refine W_draw (fun W => Sl W v0 6 z.length (cellsF z)) 38 (m := 38) (by kernel_rfl) rfl (fun w17 c17 hs17 => ?_)
        refine held (by exact Sl.nw (by (repeat (first | exact Ch.refl _ | assumption | (refine Ch.fresh ?_ (by assumption) (by intro i hi he; first | exact he | (exfalso; have he2 : i = _ := he; omega) | (exfalso; have := he.1; omega)))))) hs0) (fun hS => ?_)
        refine D_take 0 rfl (by kernel_rfl) (by kernel_rfl) (by kernel_rfl) (by kernel_rfl) (.plain rfl) rfl rfl (by assumption) (fun W hW => r_move (v := .pointer _) rfl) ?_
        refine D_take 2 rfl (by kernel_rfl) (by kernel_rfl) (by kernel_rfl) (by kernel_rfl) (.plain rfl) rfl rfl (by assumption) (fun W hW => r_move (by conv => lhs; whnf)) ?_
        refine D_take 3 rfl (by kernel_rfl) (by kernel_rfl) (by kernel_rfl) (by kernel_rfl) (.plain rfl) rfl rfl (by assumption) (fun W hW => r_move (v := .int _ _) rfl) ?_
        refine D_take 4 rfl (by kernel_rfl) (by kernel_rfl) (by kernel_rfl) (by kernel_rfl) (.plain rfl) rfl rfl (by assumption) (fun W hW => r_idxSl Tryd.underlying31 (show _ = some 6 from rfl) (by conv => lhs; whnf) rfl (by exact hW) (by omega) (by omega) (by conv => lhs; (try simp only [Nat.mul_one, Nat.zero_add, Int.toNat_natCast, Int.toNat_zero, Int.reduceToNat, Nat.reduceMul, Nat.reduceAdd]))) ?_
        refine D_take 5 rfl (by kernel_rfl) (by kernel_rfl) (by kernel_rfl) (by kernel_rfl) (.plain rfl) rfl rfl (by assumption) (fun W hW => r_fieldSl Tryd.underlying35 rfl (show _ = some 1 from rfl) rfl (show _ = 2 from rfl) rfl rfl) ?_
        refine D_take 6 rfl (by kernel_rfl) (by kernel_rfl) (by kernel_rfl) (by kernel_rfl) (.plain rfl) rfl rfl (by assumption) (fun W hW => r_loadSl rfl rfl (by exact hW) (by first | assumption | exact cellsF_row z i (by omega) _ _ rfl | exact cellsF_row z k (by omega) _ _ rfl | (conv => lhs; simp only [List.getElem?_toArray, List.getElem?_cons_succ, List.getElem?_cons_zero]))) ?_
        refine D_ev 1 (by kernel_rfl) rfl ?_
        refine L_call (.plain rfl) rfl rfl (r_call Tryd.func28 rfl rfl rfl (by rfl)) (rdnum_b (hR.nw (by (repeat (first | exact Ch.refl _ | assumption | (refine Ch.fresh ?_ (by assumption) (by intro i hi he; first | exact he | (exfalso; have he2 : i = _ := he; omega) | (exfalso; have := he.1; omega))))))) (by omega) z[k].n hok1 hl1) ?_
        rintro v86 w18 ⟨rfl, hR4, c18⟩
        have hz18 := c18.size
        refine L_nil ?_
        refine heldK (by exact Sl.nw (by (repeat (first | exact Ch.refl _ | assumption | (refine Ch.fresh ?_ (by assumption) (by intro i hi he; first | exact he | (exfalso; have he2 : i = _ := he; omega) | (exfalso; have := he.1; omega)))))) hs0) (fun hS => ?_)
        refine D_take 7 rfl (by kernel_rfl) (by kernel_rfl) (by kernel_rfl) (by kernel_rfl) (.plain rfl) rfl rfl (by assumption) (fun W hW => r_neq rfl rfl) ?_
        refine D_as (v := .bool _) (v' := .bool false) 92 rfl (dec_f (by exact fun h => h rfl)).symm ?_
        refine D_take 8 rfl (by kernel_rfl) (by kernel_rfl) (by kernel_rfl) (by kernel_rfl) (.plain rfl) rfl rfl (by assumption) (fun W hW => r_move (v := .bool _) rfl) ?_
        refine D_take 9 rfl (by kernel_rfl) (by kernel_rfl) (by kernel_rfl) (by kernel_rfl) (.yes 8 false rfl rfl) rfl rfl (by assumption) (fun W hW => r_move (v := .pointer _) rfl) ?_
        refine D_take 11 rfl (by kernel_rfl) (by kernel_rfl) (by kernel_rfl) (by kernel_rfl) (.yes 8 false rfl rfl) rfl rfl (by assumption) (fun W hW => r_move (by conv => lhs; whnf)) ?_
        refine D_take 12 rfl (by kernel_rfl) (by kernel_rfl) (by kernel_rfl) (by kernel_rfl) (.yes 8 false rfl rfl) rfl rfl (by assumption) (fun W hW => r_move (v := .int _ _) rfl) ?_
        refine D_take 13 rfl (by kernel_rfl) (by kernel_rfl) (by kernel_rfl) (by kernel_rfl) (.yes 8 false rfl rfl) rfl rfl (by assumption) (fun W hW => r_idxSl Tryd.underlying31 (show _ = some 6 from rfl) (by conv => lhs; whnf) rfl (by exact hW) (by omega) (by omega) (by conv => lhs; (try simp only [Nat.mul_one, Nat.zero_add, Int.toNat_natCast, Int.toNat_zero, Int.reduceToNat, Nat.reduceMul, Nat.reduceAdd]))) ?_
        refine D_take 14 rfl (by kernel_rfl) (by kernel_rfl) (by kernel_rfl) (by kernel_rfl) (.yes 8 false rfl rfl) rfl rfl (by assumption) (fun W hW => r_fieldSl Tryd.underlying35 rfl (show _ = some 1 from rfl) rfl (show _ = 3 from rfl) rfl rfl) ?_
        refine D_take 15 rfl (by kernel_rfl) (by kernel_rfl) (by kernel_rfl) (by kernel_rfl) (.yes 8 false rfl rfl) rfl rfl (by assumption) (fun W hW => r_loadSl rfl rfl (by exact hW) (by first | assumption | exact cellsF_row z i (by omega) _ _ rfl | exact cellsF_row z k (by omega) _ _ rfl | (conv => lhs; simp only [List.getElem?_toArray, List.getElem?_cons_succ, List.getElem?_cons_zero]))) ?_
        refine D_ev 10 (by kernel_rfl) rfl ?_
        refine L_call (.yes 8 false rfl rfl) rfl rfl (r_call Tryd.func29 rfl rfl rfl (by rfl)) (rdint_b (hR4.nw (by (repeat (first | exact Ch.refl _ | assumption | (refine Ch.fresh ?_ (by assumption) (by intro i hi he; first | exact he | (exfalso; have he2 : i = _ := he; omega) | (exfalso; have := he.1; omega))))))) (by omega) z[k].i hok2 hl2) ?_
        rintro v95 w19 ⟨rfl, hR5, c19⟩
        have hz19 := c19.size
        refine L_nil ?_
        refine heldK (by exact Sl.nw (by (repeat (first | exact Ch.refl _ | assumption | (refine Ch.fresh ?_ (by assumption) (by intro i hi he; first | exact he | (exfalso; have he2 : i = _ := he; omega) | (exfalso; have := he.1; omega)))))) hs0) (fun hS => ?_)
        refine D_take 16 rfl (by kernel_rfl) (by kernel_rfl) (by kernel_rfl) (by kernel_rfl) (.yes 8 false rfl rfl) rfl rfl (by assumption) (fun W hW => r_neq rfl rfl) ?_
        refine D_as (v := .bool _) (v' := .bool false) 101 rfl (dec_f (by exact fun h => h rfl)).symm ?_
        refine D_take 17 rfl (by kernel_rfl) (by kernel_rfl) (by kernel_rfl) (by kernel_rfl) (.plain rfl) rfl rfl (by assumption) (fun W hW => r_pick_f (v := .bool _) rfl rfl) ?_
        refine D_take 18 rfl (by kernel_rfl) (by kernel_rfl) (by kernel_rfl) (by kernel_rfl) (.plain rfl) rfl rfl (by assumption) (fun W hW => r_move (v := .bool _) rfl) ?_
        refine D_take 19 rfl (by kernel_rfl) (by kernel_rfl) (by kernel_rfl) (by kernel_rfl) (.yes 18 false rfl rfl) rfl rfl (by assumption) (fun W hW => r_move (v := .pointer _) rfl) ?_
        refine D_take 21 rfl (by kernel_rfl) (by kernel_rfl) (by kernel_rfl) (by kernel_rfl) (.yes 18 false rfl rfl) rfl rfl (by assumption) (fun W hW => r_move (by conv => lhs; whnf)) ?_
        refine D_take 22 rfl (by kernel_rfl) (by kernel_rfl) (by kernel_rfl) (by kernel_rfl) (.yes 18 false rfl rfl) rfl rfl (by assumption) (fun W hW => r_move (v := .int _ _) rfl) ?_
        refine D_take 23 rfl (by kernel_rfl) (by kernel_rfl) (by kernel_rfl) (by kernel_rfl) (.yes 18 false rfl rfl) rfl rfl (by assumption) (fun W hW => r_idxSl Tryd.underlying31 (show _ = some 6 from rfl) (by conv => lhs; whnf) rfl (by exact hW) (by omega) (by omega) (by conv => lhs; (try simp only [Nat.mul_one, Nat.zero_add, Int.toNat_natCast, Int.toNat_zero, Int.reduceToNat, Nat.reduceMul, Nat.reduceAdd]))) ?_
        refine D_take 24 rfl (by kernel_rfl) (by kernel_rfl) (by kernel_rfl) (by kernel_rfl) (.yes 18 false rfl rfl) rfl rfl (by assumption) (fun W hW => r_fieldSl Tryd.underlying35 rfl (show _ = some 1 from rfl) rfl (show _ = 4 from rfl) rfl rfl) ?_
        refine D_take 25 rfl (by kernel_rfl) (by kernel_rfl) (by kernel_rfl) (by kernel_rfl) (.yes 18 false rfl rfl) rfl rfl (by assumption) (fun W hW => r_loadSl rfl rfl (by exact hW) (by first | assumption | exact cellsF_row z i (by omega) _ _ rfl | exact cellsF_row z k (by omega) _ _ rfl | (conv => lhs; simp only [List.getElem?_toArray, List.getElem?_cons_succ, List.getElem?_cons_zero]))) ?_
        refine D_ev 20 (by kernel_rfl) rfl ?_
        refine L_call (.yes 18 false rfl rfl) rfl rfl (r_call Tryd.func30 rfl rfl rfl (by rfl)) (rdflag_b (hR5.nw (by (repeat (first | exact Ch.refl _ | assumption | (refine Ch.fresh ?_ (by assumption) (by intro i hi he; first | exact he | (exfalso; have he2 : i = _ := he; omega) | (exfalso; have := he.1; omega))))))) (by omega) z[k].yes hl3) ?_
        rintro v105 w20 ⟨rfl, hR6, c20⟩
        have hz20 := c20.size
        refine L_nil ?_
        refine heldK (by exact Sl.nw (by (repeat (first | exact Ch.refl _ | assumption | (refine Ch.fresh ?_ (by assumption) (by intro i hi he; first | exact he | (exfalso; have he2 : i = _ := he; omega) | (exfalso; have := he.1; omega)))))) hs0) (fun hS => ?_)
        refine D_take 26 rfl (by kernel_rfl) (by kernel_rfl) (by kernel_rfl) (by kernel_rfl) (.yes 18 false rfl rfl) rfl rfl (by assumption) (fun W hW => r_neqb Tryd.underlying4 rfl rfl) ?_
        refine D_as (v := .bool _) (v' := .bool false) 111 rfl (dec_f (by exact fun h => h rfl)).symm ?_
        refine D_take 27 rfl (by kernel_rfl) (by kernel_rfl) (by kernel_rfl) (by kernel_rfl) (.plain rfl) rfl rfl (by assumption) (fun W hW => r_pick_f (v := .bool _) rfl rfl) ?_
        refine D_take 28 rfl (by kernel_rfl) (by kernel_rfl) (by kernel_rfl) (by kernel_rfl) (.plain rfl) rfl rfl (by assumption) (fun W hW => r_move (v := .bool _) rfl) ?_
        refine D_take 29 rfl (by kernel_rfl) (by kernel_rfl) (by kernel_rfl) (by kernel_rfl) (.yes 28 false rfl rfl) rfl rfl (by assumption) (fun W hW => r_move (v := .pointer _) rfl) ?_
        refine D_take 31 rfl (by kernel_rfl) (by kernel_rfl) (by kernel_rfl) (by kernel_rfl) (.yes 28 false rfl rfl) rfl rfl (by assumption) (fun W hW => r_move (by conv => lhs; whnf)) ?_
        refine D_take 32 rfl (by kernel_rfl) (by kernel_rfl) (by kernel_rfl) (by kernel_rfl) (.yes 28 false rfl rfl) rfl rfl (by assumption) (fun W hW => r_move (v := .int _ _) rfl) ?_
        refine D_take 33 rfl (by kernel_rfl) (by kernel_rfl) (by kernel_rfl) (by kernel_rfl) (.yes 28 false rfl rfl) rfl rfl (by assumption) (fun W hW => r_idxSl Tryd.underlying31 (show _ = some 6 from rfl) (by conv => lhs; whnf) rfl (by exact hW) (by omega) (by omega) (by conv => lhs; (try simp only [Nat.mul_one, Nat.zero_add, Int.toNat_natCast, Int.toNat_zero, Int.reduceToNat, Nat.reduceMul, Nat.reduceAdd]))) ?_
        refine D_take 34 rfl (by kernel_rfl) (by kernel_rfl) (by kernel_rfl) (by kernel_rfl) (.yes 28 false rfl rfl) rfl rfl (by assumption) (fun W hW => r_fieldSl Tryd.underlying35 rfl (show _ = some 1 from rfl) rfl (show _ = 5 from rfl) rfl rfl) ?_
        refine D_take 35 rfl (by kernel_rfl) (by kernel_rfl) (by kernel_rfl) (by kernel_rfl) (.yes 28 false rfl rfl) rfl rfl (by assumption) (fun W hW => r_loadSl rfl rfl (by exact hW) (by first | assumption | exact cellsF_row z i (by omega) _ _ rfl | exact cellsF_row z k (by omega) _ _ rfl | (conv => lhs; simp only [List.getElem?_toArray, List.getElem?_cons_succ, List.getElem?_cons_zero]))) ?_
        refine D_ev 30 (by kernel_rfl) rfl ?_
        refine L_call (.yes 28 false rfl rfl) rfl rfl (r_call Tryd.func31 rfl rfl rfl (by rfl)) (rdtext_b (hR6.nw (by (repeat (first | exact Ch.refl _ | assumption | (refine Ch.fresh ?_ (by assumption) (by intro i hi he; first | exact he | (exfalso; have he2 : i = _ := he; omega) | (exfalso; have := he.1; omega))))))) (hT.nw (by (repeat (first | exact Ch.refl _ | assumption | (refine Ch.fresh ?_ (by assumption) (by intro i hi he; first | exact he | (exfalso; have he2 : i = _ := he; omega) | (exfalso; have := he.1; omega)))))) (by omega)) (by omega) z[k].s hg1 hg2 hl4) ?_
        rintro v115 w21 ⟨rfl, hR7, c21⟩
        have hz21 := c21.size
        refine L_nil ?_
        refine heldK (by exact Sl.nw (by (repeat (first | exact Ch.refl _ | assumption | (refine Ch.fresh ?_ (by assumption) (by intro i hi he; first | exact he | (exfalso; have he2 : i = _ := he; omega) | (exfalso; have := he.1; omega)))))) hs0) (fun hS => ?_)
        refine D_take 36 rfl (by kernel_rfl) (by kernel_rfl) (by kernel_rfl) (by kernel_rfl) (.yes 28 false rfl rfl) rfl rfl (by assumption) (fun W hW => r_neqs rfl rfl) ?_
        refine D_as (v := .bool _) (v' := .bool false) 121 rfl (dec_f (by exact fun h => h rfl)).symm ?_
        refine D_take 37 rfl (by kernel_rfl) (by kernel_rfl) (by kernel_rfl) (by kernel_rfl) (.plain rfl) rfl rfl (by assumption) (fun W hW => r_pick_f (v := .bool _) rfl rfl) ?_
        refine D_done (by kernel_rfl) ?_
        refine W_false rfl ?_
        refine W_skip ?_
        refine W_region ?_
        refine L_run (.plain rfl) rfl rfl (r_move (v := .int _ _) rfl) ?_
        refine L_run (.plain rfl) rfl rfl (r_add rfl rfl (by first | exact wr_i64 (by omega) | rfl)) ?_
        refine L_run (.plain rfl) rfl rfl (r_assign (v := .int _ _) rfl) ?_
        refine L_nil ?_
        refine ⟨⟨rfl, rfl, trivial⟩, _, ?_, k + 1, a + (varL z[k].n).length + (varL (zigI z[k].i).toNat).length + (flagL z[k].yes).length + (textL z[k].s).length, rfl, ?_, rfl⟩
        · omega
        exact ⟨by omega, hR7.nw (by (repeat (first | exact Ch.refl _ | assumption | (refine Ch.fresh ?_ (by assumption) (by intro i hi he; first | exact he | (exfalso; have he2 : i = _ := he; omega) | (exfalso; have := he.1; omega)))))), hl5, by (repeat (first | exact Ch.refl _ | assumption | (refine Ch.fresh ?_ (by assumption) (by intro i hi he; first | exact he | (exfalso; have he2 : i = _ := he; omega) | (exfalso; have := he.1; omega)))))⟩
      · have ha := hR.ha
        have hae : a = B.length := by
          have h := congrArg List.length hl
          rw [show k = z.length by omega, List.drop_length, List.length_drop] at h
          have h2 : B.length - a = 0 := h
          omega
        refine W_exit ?_
        repeat (first | refine blk_hit ?_ | refine blk_miss rfl ?_)
        refine W_seq ?_
        refine W_region ?_
        refine L_run (.plain rfl) rfl rfl (r_move (v := .pointer _) rfl) ?_
        refine L_call (.plain rfl) rfl rfl (r_call Tryd.func32 rfl rfl rfl (by rfl)) (rdend_walk _ b3 _ _ _ _ _ (hR.nw (by (repeat (first | exact Ch.refl _ | assumption | (refine Ch.fresh ?_ (by assumption) (by intro i hi he; first | exact he | (exfalso; have he2 : i = _ := he; omega) | (exfalso; have := he.1; omega)))))))) ?_
        rintro v125 w22 ⟨rfl, c22⟩
        have hz22 := c22.size
        refine L_run (.plain rfl) rfl rfl (r_move (by conv => lhs; whnf)) ?_
        refine L_run (.plain rfl) rfl rfl (r_ext2_0 rfl) ?_
        refine L_run (.plain rfl) rfl rfl (r_ext2_1 rfl) ?_
        refine L_run (.plain rfl) rfl rfl (r_assign (v := .int _ _) rfl) ?_
        refine L_run (.plain rfl) rfl rfl (r_assign (v := .int _ _) rfl) ?_
        refine L_nil ?_
        refine W_seq ?_
        refine W_region ?_
        refine L_run (.plain rfl) rfl rfl (r_move (v := .int _ _) rfl) ?_
        refine L_run (.plain rfl) rfl rfl (r_eql rfl rfl) ?_
        refine L_as (v := .bool _) (v' := .bool true) 129 rfl (dec_t (by exact if_neg fun h => h.2 hae)).symm ?_
        refine L_run (.plain rfl) rfl rfl (r_move (v := .bool _) rfl) ?_
        refine L_run (.yes 2 true rfl rfl) rfl rfl (r_move (v := .pointer _) rfl) ?_
        refine L_call (.yes 2 true rfl rfl) rfl rfl (r_call Tryd.func33 rfl rfl rfl (by rfl)) (left_walk _ b3 _ _ _ _ _ (hR.nw (by (repeat (first | exact Ch.refl _ | assumption | (refine Ch.fresh ?_ (by assumption) (by intro i hi he; first | exact he | (exfalso; have he2 : i = _ := he; omega) | (exfalso; have := he.1; omega)))))))) ?_
        rintro v132 w23 ⟨rfl, c23⟩
        have hz23 := c23.size
        refine L_run (.yes 2 true rfl rfl) rfl rfl (r_eql rfl rfl) ?_
        refine L_run (.plain rfl) rfl rfl (r_pick_t (v := .bool _) rfl rfl) ?_
        refine L_run (.plain rfl) rfl rfl (r_assign (v := .bool _) rfl) ?_
        refine L_nil ?_
        refine W_ret ?_
        refine ret1 (v := .bool _) rfl rfl ?_
        refine ⟨?_, by (repeat (first | exact Ch.refl _ | assumption | (refine Ch.fresh ?_ (by assumption) (by intro i hi he; first | exact he | (exfalso; have he2 : i = _ := he; omega) | (exfalso; have := he.1; omega)))))⟩
        first
        | exact congrArg Value.bool (decide_eq_true (by omega))
        | exact rfl
end Go.Proofs.YtikpcphlmlgojaaDoor

