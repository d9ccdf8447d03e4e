/- The writer, walked. -/
import Derived.Test.YtioonbfinnigpaaGreatDoorPackV
namespace Go.Proofs.YtioonbfinnigpaaGreatDoor
open Go Go.RowKit
set_option linter.unusedVariables false
set_option maxRecDepth 100000
set_option linter.unusedSimpArgs false
theorem ow_apart {w : World} {b1 b2 e e' s1 s2 n1 n2 : Nat} {v v' : Value} {xs ys : List Value} (h : Ow w b1 e s1 v n1 xs) (h' : Ow w b2 e' s2 v' n2 ys) (hne : e ≠ e') : ∀ j, v.ownBlock = some j → v'.ownBlock ≠ some j := by
  intro j h1 h2
  obtain ⟨_, k1⟩ := h.bk h1
  obtain ⟨_, k2⟩ := h'.bk h2
  exact Bk.ne k1 k2 hne rfl
theorem ow_nb {w : World} {b1 b e t s1 n1 : Nat} {v : Value} {xs : List Value} {cs : Array Value} (h : Ow w b1 e s1 v n1 xs) (h' : Bk w b cs t) (hne : e ≠ t) : v.ownBlock ≠ some b := by
  intro h1
  obtain ⟨_, k1⟩ := h.bk h1
  exact Bk.ne k1 h' hne rfl
/-- A writer: what was written. -/
def WrAt (base : Nat) (w : World) (b : Nat) (A : List UInt8) : Prop :=
  ∃ v, Bk w b #[v] 92 ∧ base ≤ b ∧ Ow w base 5 1 v A.length (A.map b8)
abbrev WrC (base : Nat) (w w' : World) : Prop := Ch (Tb base w [92, 5]) w w'
theorem Tb.trans {base : Nat} {w0 w1 w2 : World} {ts : List TypeId} (h : Ch (Tb base w0 ts) w0 w1) (k : Ch (Tb base w1 ts) w1 w2) : Ch (Tb base w0 ts) w0 w2 :=
  h.fresh k fun i hi hT => by
    apply Classical.byContradiction
    intro hn
    obtain ⟨h1, cs, t, fr, h2, h3⟩ := hT
    exact hn ⟨h1, cs, t, fr, by rw [← h.blk i hi hn]; exact h2, h3⟩
theorem WrC.nw {base : Nat} {w0 w1 w2 : World} (h : WrC base w0 w1) (c : Nw w1 w2) : WrC base w0 w2 := h.fresh c fun i hi x => x.elim
theorem WrC.own {base n : Nat} {w0 w1 w2 : World} {v : Value} {xs : List Value} (h : WrC base w0 w1) (hO : Ow w1 base 5 1 v n xs) (c : Ch (fun j => v.ownBlock = some j) w1 w2) : WrC base w0 w2 :=
  Tb.trans h (c.mono fun i _ hi => by obtain ⟨cs, hb⟩ := hO.bk hi; exact Tb.of_bk hb (by decide) (ow_base hO hi))
theorem WrC.at {base b : Nat} {w0 w1 w2 : World} {cs : Array Value} (h : WrC base w0 w1) (hb : Bk w1 b cs 92) (h0 : base ≤ b) (c : Ch (fun j => j = b) w1 w2) : WrC base w0 w2 :=
  Tb.trans h (c.mono fun i _ hi => by have e : i = b := hi; rw [e]; exact Tb.of_bk hb (by decide) h0)
theorem WrAt.nw {base : Nat} {w w' : World} {b : Nat} {A : List UInt8} (h : WrAt base w b A) (c : Nw w w') : WrAt base w' b A := by
  obtain ⟨v, h1, h2, h3⟩ := h
  exact ⟨v, h1.ch c not_no, h2, h3.nw c⟩
def ucells (l : List Nat) : List Value := l.map fun (x : Nat) => .int .u64 (x : Int)
theorem ucells_get (l : List Nat) (i : Nat) (h : i < l.length) : (ucells l)[i]? = some (.int .u64 (l[i] : Int)) := by simp [ucells, h]
def icells (l : List Int) : List Value := l.map fun x => .int .i64 x
theorem icells_get (l : List Int) (i : Nat) (h : i < l.length) : (icells l)[i]? = some (.int .i64 l[i]) := by simp [icells, h]
theorem write_walk  (w0 : World) : Does Tryz.prog 36 #[] w0 (fun r w' => ∃ b, r = .pointer (some ⟨b, 0, none⟩) ∧ WrAt w0.heap.size w' b [] ∧ Nw w0 w') := by
  refine fn_of (n := 3) (args := []) Tryz.func36 rfl rfl rfl ?_
  refine W_seq ?_
  refine W_region ?_
  refine L_r (r_ap rfl) ?_
  refine L_nil ?_
  refine W_seq ?_
  refine W_region ?_
  refine L_r (r_build1 (pl := [(0, 1)]) (vs := []) (cells := [_]) Tryz.underlying92 rfl rfl (by rfl) rfl (by rfl)) ?_
  refine L_new (.plain rfl) rfl rfl (r_boxa rfl) (fun w1 b2 hb2 eb1 hs1 c1 => ?_)
  refine L_r (r_ap rfl) ?_
  refine L_nil ?_
  refine W_ret ?_
  refine ret1 (v := .pointer _) rfl rfl ?_
  exact ⟨_, rfl, ⟨_, Bk.au, by omega, Ow.nil _ _ _ _⟩, Ch.au⟩
theorem clone_walk (v : Value) (l : List UInt8) (w0 : World) (hv : Sl w0 v 1 l.length (l.map b8)) (hl : l.length ≤ 100000000) : Does Tryz.prog 22 #[v] w0 (fun r w' => ∃ v', r = v' ∧ Ow w' w0.heap.size 5 1 v' l.length (l.map b8) ∧ Nw w0 w') := by
  refine fn_of (n := 8) (args := [v]) Tryz.func22 rfl rfl rfl ?_
  refine W_seq ?_
  refine W_region ?_
  refine L_r (r_av) ?_
  refine L_nil ?_
  refine W_seq ?_
  refine W_seq ?_
  refine W_region ?_
  refine L_r (r_mv) ?_
  refine L_r (r_eqnilSl Tryz.underlying30 (by conv => lhs; whnf) rfl Sl.au) ?_
  refine L_nil ?_
  refine W_bool rfl (fun h4 => ?_) (fun h4 => ?_)
  · refine W_seq ?_
    refine W_region ?_
    refine L_r (r_av) ?_
    refine L_nil ?_
    refine W_ret ?_
    refine ret1 rfl (by conv => lhs; whnf) ?_
    first
      | (obtain ⟨hq, hq2⟩ := nilS_true hv (by assumption)
         refine ⟨_, rfl, ?_, Ch.au⟩
         have : l = [] := List.eq_nil_of_length_eq_zero hq2
         subst this
         exact Ow.nil _ _ _ _)
      | (refine ⟨_, rfl, ?_, Ch.au⟩
         rw [Nat.zero_add, List.nil_append] at ho7
         exact Ow.mono ho7 (by omega))
  · refine W_skip ?_
    refine W_seq ?_
    refine W_region ?_
    refine L_build0 (sz := 1) Tryz.underlying30 rfl (.plain rfl) rfl (fun v5 w1 ho5 eb1 nl5 hs1 c1 => ?_)
    refine L_r (r_mv) ?_
    refine L_apow Tryz.underlying30 bytes_info rfl (by decide) (.plain rfl) rfl (by conv => lhs; whnf) (by conv => lhs; whnf) (Ow.of Own.au) Sl.au (b8_oneCell l) (by unfold maxLen; omega) (by omega) (by omega) (fun v7 w2 ho7 c2 hob7 => ?_)
    have hz2 := c2.size
    refine L_r (r_av) ?_
    refine L_nil ?_
    refine W_ret ?_
    refine ret1 rfl (by conv => lhs; whnf) ?_
    first
      | (obtain ⟨hq, hq2⟩ := nilS_true hv (by assumption)
         refine ⟨_, rfl, ?_, Ch.au⟩
         have : l = [] := List.eq_nil_of_length_eq_zero hq2
         subst this
         exact Ow.nil _ _ _ _)
      | (refine ⟨_, rfl, ?_, Ch.au⟩
         rw [Nat.zero_add, List.nil_append] at ho7
         exact Ow.mono ho7 (by omega))
theorem wnum_walk (base base' b : Nat) (A : List UInt8) (v : Value) (l : List Nat) (w0 : World) (hW : WrAt base w0 b A) (hv : Ow w0 base' 23 1 v l.length (ucells l)) (hl : ∀ x ∈ l, x ≤ 18446744073709551615) (hAl : A.length + 10 * l.length ≤ 100000000) (hb : base ≤ w0.heap.size) : Does Tryz.prog 37 #[.pointer (some ⟨b, 0, none⟩), v] w0 (fun r w' => r = .tuple #[] ∧ WrAt base w' b (A ++ l.flatMap varL) ∧ WrC base w0 w') := by
  obtain ⟨q, hq1, hq2, hq3⟩ := hW
  have hvb := ow_nb hv hq1 (by decide)
  have hvs := hv.sl
  refine fn_of (n := 23) (args := [.pointer (some ⟨b, 0, none⟩), v]) Tryz.func37 rfl rfl rfl ?_
  refine W_seq ?_
  refine W_region ?_
  refine L_r (r_mv) ?_
  refine L_r (r_lenSl Tryz.underlying93 (by conv => lhs; whnf) Sl.au) ?_
  refine L_r (r_mi rfl) ?_
  refine L_nil ?_
  refine W_block ?_
  refine W_loopF [0, 6, 7] (fun mz_ f W => ∃ (i : Nat) (B : List UInt8) (vv : Value), f 8 = .int .i64 i ∧ (i ≤ l.length ∧ B = A ++ (l.take i).flatMap varL ∧ B.length ≤ A.length + 10 * i ∧ Bk W b #[vv] 92 ∧ Ow W base 5 1 vv B.length (B.map b8) ∧ Ow W base' 23 1 v l.length (ucells l) ∧ WrC base w0 W) ∧ mz_ = l.length - i) ?_ ?_
  · refine ⟨_, 0, A, q, rfl, ?_, rfl⟩
    exact ⟨by omega, by simp, by omega, Bk.au, Ow.au, Ow.au, Ch.au⟩
  rintro m0 g0 w1 ⟨i, B, vv, hf8, hR0, rfl⟩
  refine W_as 8 hf8 rfl ?_
  clear hf8
  obtain ⟨hi, hB, hBl, hbk, hO, hvi, hcw⟩ := hR0
  have hz := hcw.size
  have hnb := ow_nb hO hbk (by decide)
  have hsep := ow_apart hvi hO (by decide)
  refine W_seq ?_
  refine W_region ?_
  refine L_r (r_lss rfl rfl) ?_
  refine L_nil ?_
  refine W_seq ?_
  refine W_if rfl (fun h9 => ?_) (fun h9 => ?_)
  · have hin : i < l.length := by omega
    have hli := hl l[i] (List.getElem_mem hin)
    have hten := varL_ten hli
    refine W_skip ?_
    refine W_seq ?_
    refine W_block ?_
    refine W_seq ?_
    refine W_region ?_
    refine L_r (r_ix Tryz.underlying93 (show _ = some 1 from rfl) (by conv => lhs; whnf) rfl Sl.au) ?_
    refine L_r (r_loadSl rfl rfl Sl.au (by first | assumption | exact ucells_get _ _ (by omega) | (conv => lhs; simp only [List.getElem?_toArray, List.getElem?_cons_succ, List.getElem?_cons_zero]))) ?_
    refine L_r (r_ai rfl) ?_
    refine L_nil ?_
    refine W_draw (fun W => Bk W b #[vv] 92) 10 (m := 11) (by kernel_rfl) rfl (fun w2 c2 hs2 => ?_)
    refine held Bk.au (fun hS => ?_)
    refine D_t 0 rfl (fun W hW => r_mp rfl) ?_
    refine D_t 1 rfl (fun W hW => r_mp rfl) ?_
    refine D_t 2 rfl (fun W hW => r_nilCheck rfl) ?_
    refine D_t 3 rfl (fun W hW => r_fieldb Tryz.underlying92 rfl (show _ = some 1 from rfl) rfl rfl (show _ = 0 from rfl)) ?_
    refine D_t 4 rfl (fun W hW => r_loadb rfl rfl (by exact hW) (by first | assumption | (conv => lhs; simp only [List.getElem?_toArray, List.getElem?_cons_succ, List.getElem?_cons_zero]))) ?_
    refine D_t 5 rfl (fun W hW => r_mi rfl) ?_
    refine D_ev 6 (by kernel_rfl) rfl ?_
    refine L_call (.plain rfl) rfl rfl (r_call Tryz.func60 rfl rfl rfl (by rfl)) (var_walk l[i] _ hli) ?_
    rintro v18 w3 ⟨v', rfl, hov, c3⟩
    have hz3 := c3.size
    have hsv := hov.sl
    refine L_nil ?_
    refine heldK Bk.au (fun hS => ?_)
    refine D_ev 7 (by kernel_rfl) rfl ?_
    have hO2 : Ow w3 base 5 1 vv B.length (B.map b8) := Ow.to hO (fun i hi => Sm.au)
    have hbk2 : Bk w3 b #[vv] 92 := Bk.au
    have hcx : WrC base w0 w3 := Ch.au
    refine L_apow Tryz.underlying30 bytes_info rfl (by decide) (.plain rfl) rfl (by conv => lhs; whnf) (by conv => lhs; whnf) hO2 Sl.au (b8_oneCell _) (by unfold maxLen; omega) (by omega) (by omega) (fun v19 w4 ho19 c4 hob19 => ?_)
    have hz4 := c4.size
    have hcy := WrC.own hcx hO2 c4
    have hbk3 : Bk w4 b #[vv] 92 := hbk2.ch c4 (fun e => hnb e)
    have hn19 : v19.ownBlock ≠ some b := fun e => by rcases hob19 _ e with h | h; exact hnb h; (have := hbk2.lt; omega)
    have hO3 := ho19
    clear hcx
    have cL4 := c4
    refine L_nil ?_
    refine heldK Bk.au (fun hS => ?_)
    refine D_ev 8 (by kernel_rfl) rfl ?_
    refine L_r (r_nilCheck rfl) ?_
    refine L_nil ?_
    refine heldK Bk.au (fun hS => ?_)
    refine D_t 9 rfl (fun W hW => r_fieldb Tryz.underlying92 rfl (show _ = some 1 from rfl) rfl rfl (show _ = 0 from rfl)) ?_
    refine D_ev 10 (by kernel_rfl) rfl ?_
    refine L_set (.plain rfl) rfl Bk.au (r_store rfl rfl (by conv => lhs; whnf) (by first | rfl | exact ow_one (by assumption) | exact own_one (by assumption) | exact sl_one (by assumption)) Bk.au (by first | decide | (simp; done) | omega)) (fun w5 hb5 hs5 c5 => ?_)
    try simp only [List.setIfInBounds_toArray, List.set_cons_zero, List.set_cons_succ] at hb5
    refine L_nil ?_
    refine heldL ?_
    refine D_done (by kernel_rfl) ?_
    refine W_region ?_
    refine L_r (r_add rfl rfl (by first | exact wr_i64 (by omega) | rfl)) ?_
    refine L_r (r_mi rfl) ?_
    refine L_nil ?_
    refine ⟨⟨fx2, fx2, fx2, trivial⟩, _, ?_, i + 1, B ++ varL l[i], v19, rfl, ?_, rfl⟩
    · omega
    refine ⟨by omega, by rw [List.take_succ_eq_append_getElem (by omega), List.flatMap_append, hB]; simp, by rw [List.length_append]; omega, Bk.au, ?_, Ow.au, ?_⟩
    · rw [List.length_append, List.map_append]
      (exact Ow.au)
    · exact WrC.at hcy hbk3 hq2 (by assumption)
  · refine W_exit ?_
    repeat (first | refine blk_hit ?_ | refine blk_miss rfl ?_)
    refine ret0 rfl  ?_
    exact ⟨rfl, ⟨vv, Bk.au, hq2, by rw [hB, show i = l.length by omega, List.take_length] at hO; exact hO⟩, Ch.au⟩
theorem ow_lit {w : World} {base n : Nat} {v : Value} {xs : List Value} {e : Nat} (h : w.ownsRow base e 1 v n xs) : Ow w base e 1 v n xs := Ow.of h
theorem wint_walk (base base' b : Nat) (A : List UInt8) (v : Value) (l : List Int) (w0 : World) (hW : WrAt base w0 b A) (hv : Ow w0 base' 2 1 v l.length (icells l)) (hl : ∀ x ∈ l, -9223372036854775808 ≤ x ∧ x ≤ 9223372036854775807) (hAl : A.length + 10 * l.length ≤ 10000000) (hb : base ≤ w0.heap.size) : Does Tryz.prog 39 #[.pointer (some ⟨b, 0, none⟩), v] w0 (fun r w' => r = .tuple #[] ∧ WrAt base w' b (A ++ l.flatMap fun n => varL (zigI n).toNat) ∧ WrC base w0 w') := by
  have hvs := hv.sl
  refine fn_of (n := 18) (args := [.pointer (some ⟨b, 0, none⟩), v]) Tryz.func39 rfl rfl rfl ?_
  refine W_seq ?_
  refine W_region ?_
  refine L_r (r_mv) ?_
  refine L_r (r_lenSl Tryz.underlying98 (by conv => lhs; whnf) Sl.au) ?_
  refine L_r (r_mi rfl) ?_
  refine L_nil ?_
  refine W_block ?_
  refine W_loopF [0, 6, 7] (fun mz_ f W => ∃ (i : Nat) (B : List UInt8), f 8 = .int .i64 i ∧ (i ≤ l.length ∧ B = A ++ ((l.take i).flatMap fun n => varL (zigI n).toNat) ∧ B.length ≤ A.length + 10 * i ∧ WrAt base W b B ∧ Ow W base' 2 1 v l.length (icells l) ∧ WrC base w0 W) ∧ mz_ = l.length - i) ?_ ?_
  · refine ⟨_, 0, A, rfl, ?_, rfl⟩
    exact ⟨by omega, by simp, by omega, hW.nw Ch.au, Ow.au, Ch.au⟩
  rintro m0 g0 w1 ⟨i, B, hf8, hR0, rfl⟩
  refine W_as 8 hf8 rfl ?_
  clear hf8
  obtain ⟨hi, hB, hBl, hWi, hvi, hcw⟩ := hR0
  have hz := hcw.size
  refine W_seq ?_
  refine W_region ?_
  refine L_r (r_lss rfl rfl) ?_
  refine L_nil ?_
  refine W_seq ?_
  refine W_if rfl (fun h9 => ?_) (fun h9 => ?_)
  · have hin : i < l.length := by omega
    have hli := hl l[i] (List.getElem_mem hin)
    have hzg : 0 ≤ zigI l[i] ∧ zigI l[i] ≤ 18446744073709551615 := by unfold zigI; split <;> omega
    have hten := varL_ten (v := (zigI l[i]).toNat) (by omega)
    refine W_skip ?_
    refine W_seq ?_
    refine W_block ?_
    refine W_seq ?_
    refine W_region ?_
    refine L_r (r_ix Tryz.underlying98 (show _ = some 1 from rfl) (by conv => lhs; whnf) rfl Sl.au) ?_
    refine L_r (r_loadSl rfl rfl Sl.au (by first | assumption | exact icells_get _ _ (by omega) | (conv => lhs; simp only [List.getElem?_toArray, List.getElem?_cons_succ, List.getElem?_cons_zero]))) ?_
    refine L_r (r_ai rfl) ?_
    refine L_nil ?_
    refine W_region ?_
    refine L_r (r_mp rfl) ?_
    refine L_r (r_mi rfl) ?_
    refine L_call (.plain rfl) rfl rfl (r_call Tryz.func63 rfl rfl rfl (by rfl)) (zig_walk l[i] _ hli) ?_
    rintro v14 w2 ⟨rfl, rfl⟩
    refine L_build1o [.int _ _] Tryz.underlying93 rfl rfl rfl (.plain rfl) rfl (by rfl) (by rfl) (by rfl) (fun v15 w3 ho15 eb3 hs3 c3 => ?_)
    have hol := ow_lit ho15
    have hco : WrC base w0 w3 := WrC.nw hcw Ch.au
    have hvx := hvi.nw (Ch.au : Nw _ w3)
    have e15 : [Value.int .u64 (zigI l[i])] = ucells [(zigI l[i]).toNat] := by
      show _ = [Value.int .u64 (((zigI l[i]).toNat : Nat) : Int)]
      rw [show (((zigI l[i]).toNat : Nat) : Int) = zigI l[i] by omega]
    rw [e15] at hol
    have hWx := hWi.nw (Ch.au : Nw _ w3)
    refine L_call (.plain rfl) rfl rfl (r_call Tryz.func37 rfl rfl rfl (by rfl)) (wnum_walk base _ b B _ [(zigI l[i]).toNat] _ hWx hol (by intro x hx; rw [List.mem_singleton] at hx; omega) (by show B.length + 10 * 1 ≤ _; omega) (by omega)) ?_
    rintro v16 w4 ⟨rfl, hWn, c4⟩
    have hz4 := c4.size
    have hW9 : WrAt base w4 b (B ++ varL (zigI l[i]).toNat) := by have h := hWn; rw [List.flatMap_singleton] at h; exact h
    have hc9 := Tb.trans hco c4
    have hv9 := hvx.tb c4 rfl
    refine L_nil ?_
    refine W_region ?_
    refine L_r (r_add rfl rfl (by first | exact wr_i64 (by omega) | rfl)) ?_
    refine L_r (r_mi rfl) ?_
    refine L_nil ?_
    refine ⟨⟨fx2, fx2, fx2, trivial⟩, _, ?_, i + 1, B ++ varL (zigI l[i]).toNat, rfl, ?_, rfl⟩
    · omega
    exact ⟨by omega, by rw [List.take_succ_eq_append_getElem (by omega), List.flatMap_append, hB]; simp, by rw [List.length_append]; omega, hW9.nw Ch.au, hv9.nw Ch.au, WrC.nw hc9 Ch.au⟩
  · refine W_exit ?_
    repeat (first | refine blk_hit ?_ | refine blk_miss rfl ?_)
    refine ret0 rfl  ?_
    exact ⟨rfl, by rw [hB, show i = l.length by omega, List.take_length] at hWi; exact hWi.nw Ch.au, WrC.nw hcw Ch.au⟩
def bcells (l : List Bool) : List Value := l.map fun x => .bool x
theorem bcells_get (l : List Bool) (i : Nat) (h : i < l.length) : (bcells l)[i]? = some (.bool l[i]) := by simp [bcells, h]
def scells (l : List ByteArray) : List Value := l.map fun x => .string x
theorem scells_get (l : List ByteArray) (i : Nat) (h : i < l.length) : (scells l)[i]? = some (.string l[i]) := by simp [scells, h]
def textL (s : ByteArray) : List UInt8 := varL s.size ++ bs s
theorem wtext_walk (base base' b : Nat) (A : List UInt8) (v : Value) (l : List ByteArray) (w0 : World) (hW : WrAt base w0 b A) (hv : Ow w0 base' 9 1 v l.length (scells l)) (hl : ∀ s ∈ l, s.size ≤ 10000) (hln : l.length ≤ 100) (hAl : A.length ≤ 1000000) (hb : base ≤ w0.heap.size) : Does Tryz.prog 40 #[.pointer (some ⟨b, 0, none⟩), v] w0 (fun r w' => r = .tuple #[] ∧ WrAt base w' b (A ++ l.flatMap textL) ∧ WrC base w0 w') := by
  have hvs := hv.sl
  refine fn_of (n := 28) (args := [.pointer (some ⟨b, 0, none⟩), v]) Tryz.func40 rfl rfl rfl ?_
  refine W_seq ?_
  refine W_region ?_
  refine L_r (r_mv) ?_
  refine L_r (r_lenSl Tryz.underlying49 (by conv => lhs; whnf) Sl.au) ?_
  refine L_r (r_mi rfl) ?_
  refine L_nil ?_
  refine W_block ?_
  refine W_loopF [0, 6, 7] (fun mz_ f W => ∃ (i : Nat) (B : List UInt8), f 8 = .int .i64 i ∧ (i ≤ l.length ∧ B = A ++ (l.take i).flatMap textL ∧ B.length ≤ A.length + 10010 * i ∧ WrAt base W b B ∧ Ow W base' 9 1 v l.length (scells l) ∧ WrC base w0 W) ∧ mz_ = l.length - i) ?_ ?_
  · refine ⟨_, 0, A, rfl, ?_, rfl⟩
    exact ⟨by omega, by simp, by omega, hW.nw Ch.au, Ow.au, Ch.au⟩
  rintro m0 g0 w1 ⟨i, B, hf8, hR0, rfl⟩
  refine W_as 8 hf8 rfl ?_
  clear hf8
  obtain ⟨hi, hB, hBl, hWi, hvi, hcw⟩ := hR0
  have hz := hcw.size
  refine W_seq ?_
  refine W_region ?_
  refine L_r (r_lss rfl rfl) ?_
  refine L_nil ?_
  refine W_seq ?_
  refine W_if rfl (fun h9 => ?_) (fun h9 => ?_)
  · have hin : i < l.length := by omega
    have hli := hl l[i] (List.getElem_mem hin)
    have hten := varL_ten (v := l[i].size) (by omega)
    refine W_skip ?_
    refine W_seq ?_
    refine W_block ?_
    refine W_seq ?_
    refine W_region ?_
    refine L_r (r_ix Tryz.underlying49 (show _ = some 1 from rfl) (by conv => lhs; whnf) rfl Sl.au) ?_
    refine L_r (r_loadSl rfl rfl Sl.au (by first | assumption | exact scells_get _ _ (by omega) | (conv => lhs; simp only [List.getElem?_toArray, List.getElem?_cons_succ, List.getElem?_cons_zero]))) ?_
    refine L_r (r_as rfl) ?_
    refine L_nil ?_
    refine W_seq ?_
    refine W_region ?_
    refine L_r (r_mp rfl) ?_
    refine L_r (r_ms rfl) ?_
    refine L_r (r_lens Tryz.underlying9 rfl) ?_
    refine L_r (r_conv Tryz.underlying3 Tryz.underlying23 rfl (by first | exact wr_u64 (by omega) | rfl)) ?_
    refine L_build1o [.int _ _] Tryz.underlying93 rfl rfl rfl (.plain rfl) rfl (by rfl) (by rfl) (by rfl) (fun v16 w2 ho16 eb2 hs2 c2 => ?_)
    have hol := ow_lit ho16
    have hco : WrC base w0 w2 := WrC.nw hcw Ch.au
    have hvx := hvi.nw (Ch.au : Nw _ w2)
    have hWx := hWi.nw (Ch.au : Nw _ w2)
    refine L_call (.plain rfl) rfl rfl (r_call Tryz.func37 rfl rfl rfl (by rfl)) (wnum_walk base _ b B _ [l[i].size] _ hWx hol (by intro x hx; rw [List.mem_singleton] at hx; omega) (by show B.length + 10 * 1 ≤ _; omega) (by omega)) ?_
    rintro v17 w3 ⟨rfl, hWn, c3⟩
    have hz3 := c3.size
    have hW9 : WrAt base w3 b (B ++ varL l[i].size) := by have h := hWn; rw [List.flatMap_singleton] at h; exact h
    have hc9 := Tb.trans hco c3
    have hv9 := hvx.tb c3 rfl
    obtain ⟨vv, hx1, hx2, hx3⟩ := hW9
    have hvb := ow_nb hv9 hx1 (by decide)
    have hnb := ow_nb hx3 hx1 (by decide)
    have hsep := ow_apart hv9 hx3 (by decide)
    refine L_nil ?_
    refine W_region ?_
    refine L_r (r_mp rfl) ?_
    refine L_r (r_mp rfl) ?_
    refine L_r (r_nilCheck rfl) ?_
    refine L_r (r_fieldb Tryz.underlying92 rfl (show _ = some 1 from rfl) rfl rfl (show _ = 0 from rfl)) ?_
    refine L_r (r_lb rfl rfl) ?_
    refine L_r (r_ms rfl) ?_
    have hO2 : Ow w3 base 5 1 vv (B ++ varL l[i].size).length ((B ++ varL l[i].size).map b8) := Ow.to hx3 (fun i hi => Sm.au)
    have hbk2 : Bk w3 b #[vv] 92 := Bk.au
    have hvi9 := hv9.nw (Ch.au : Nw _ w3)
    have hcx : WrC base w0 w3 := WrC.nw hc9 Ch.au
    have hle : (B ++ varL l[i].size).length ≤ B.length + 10 := by rw [List.length_append]; omega
    refine L_apows Tryz.underlying30 Tryz.underlying9 bytes_info (.plain rfl) rfl (by conv => lhs; whnf) rfl hO2 (by unfold maxLen; omega) (by omega) (by omega) (fun v24 w4 ho24 c4 hob24 => ?_)
    have hz4 := c4.size
    have hcy := WrC.own hcx hO2 c4
    have hbk3 : Bk w4 b #[vv] 92 := hbk2.ch c4 (fun e => hnb e)
    have hn24 : v24.ownBlock ≠ some b := fun e => by rcases hob24 _ e with h | h; exact hnb h; (have := hbk2.lt; omega)
    clear hcx
    have cL4 := c4
    refine L_r (r_nilCheck rfl) ?_
    refine L_r (r_fieldb Tryz.underlying92 rfl (show _ = some 1 from rfl) rfl rfl (show _ = 0 from rfl)) ?_
    refine L_set (.plain rfl) rfl Bk.au (r_store rfl rfl (by conv => lhs; whnf) (by first | rfl | exact ow_one (by assumption) | exact own_one (by assumption) | exact sl_one (by assumption)) Bk.au (by first | decide | (simp; done) | omega)) (fun w5 hb5 hs5 c5 => ?_)
    try simp only [List.setIfInBounds_toArray, List.set_cons_zero, List.set_cons_succ] at hb5
    refine L_nil ?_
    refine W_region ?_
    refine L_r (r_add rfl rfl (by first | exact wr_i64 (by omega) | rfl)) ?_
    refine L_r (r_mi rfl) ?_
    refine L_nil ?_
    refine ⟨⟨fx2, fx2, fx2, trivial⟩, _, ?_, i + 1, B ++ textL l[i], rfl, ?_, rfl⟩
    · omega
    refine ⟨by omega, by rw [List.take_succ_eq_append_getElem (by omega), List.flatMap_append, hB]; simp, by unfold textL; rw [List.length_append, List.length_append, bs_length]; omega, ⟨v24, by assumption, hx2, ?_⟩, ?_, ?_⟩
    · rw [textL, ← List.append_assoc, List.length_append, bs_length, List.map_append]
      (exact Ow.au)
    · exact hvi9.to (fun i hi => Sm.au)
    · exact WrC.at hcy hbk3 hx2 (by assumption)
  · refine W_exit ?_
    repeat (first | refine blk_hit ?_ | refine blk_miss rfl ?_)
    refine ret0 rfl  ?_
    exact ⟨rfl, by rw [hB, show i = l.length by omega, List.take_length] at hWi; exact hWi.nw Ch.au, WrC.nw hcw Ch.au⟩
theorem bytes_walk (base b : Nat) (A : List UInt8) (w0 : World) (hW : WrAt base w0 b A) (hAl : A.length ≤ 100000000) : Does Tryz.prog 41 #[.pointer (some ⟨b, 0, none⟩)] w0 (fun r w' => ∃ v', r = v' ∧ Ow w' w0.heap.size 5 1 v' A.length (A.map b8) ∧ Nw w0 w') := by
  obtain ⟨q, hq1, hq2, hq3⟩ := hW
  have hqs := hq3.sl
  refine fn_of (n := 8) (args := [.pointer (some ⟨b, 0, none⟩)]) Tryz.func41 rfl rfl rfl ?_
  refine W_seq ?_
  refine W_region ?_
  refine L_r (r_av) ?_
  refine L_nil ?_
  refine W_seq ?_
  refine W_region ?_
  refine L_r (r_mp rfl) ?_
  refine L_r (r_nilCheck rfl) ?_
  refine L_r (r_fieldb Tryz.underlying92 rfl (show _ = some 1 from rfl) rfl rfl (show _ = 0 from rfl)) ?_
  refine L_r (r_lb rfl rfl) ?_
  refine L_call (.plain rfl) rfl rfl (r_call Tryz.func22 rfl rfl rfl (by rfl)) (clone_walk q A _ hqs hAl) ?_
  rintro v7 w1 ⟨v', rfl, hov, c1⟩
  have hz1 := c1.size
  refine L_r (r_av) ?_
  refine L_nil ?_
  refine W_ret ?_
  refine ret1 rfl (by conv => lhs; whnf) ?_
  exact ⟨_, rfl, hov.mono (by omega), Ch.au⟩
end Go.Proofs.YtioonbfinnigpaaGreatDoor

