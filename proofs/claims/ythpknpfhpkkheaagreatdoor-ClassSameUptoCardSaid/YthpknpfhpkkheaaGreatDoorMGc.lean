/- Parts of the proof (PackW, PackR, PackU, Code1, Code2, Code3, Code4, ClsD). -/
import Derived.Test.YthpknpfhpkkheaaGreatDoorMGb
namespace Go.Proofs.YthpknpfhpkkheaaGreatDoor
open Go Go.RowKit
set_option linter.unusedVariables false
set_option maxRecDepth 100000
set_option linter.unusedSimpArgs false
theorem ow_apart {w : World} {b1 b2 e e' s1 s2 n1 n2 : Nat} {v v' : Value} {xs ys : List Value} (h : Ow w b1 e s1 v n1 xs) (h' : Ow w b2 e' s2 v' n2 ys) (hne : e ≠ e') : ∀ j, v.ownBlock = some j → v'.ownBlock ≠ some j := by
  intro j h1 h2
  obtain ⟨_, k1⟩ := h.bk h1
  obtain ⟨_, k2⟩ := h'.bk h2
  exact Bk.ne k1 k2 hne rfl
theorem ow_nb {w : World} {b1 b e t s1 n1 : Nat} {v : Value} {xs : List Value} {cs : Array Value} (h : Ow w b1 e s1 v n1 xs) (h' : Bk w b cs t) (hne : e ≠ t) : v.ownBlock ≠ some b := by
  intro h1
  obtain ⟨_, k1⟩ := h.bk h1
  exact Bk.ne k1 h' hne rfl
/-- A writer: what was written. -/
def WrAt (base : Nat) (w : World) (b : Nat) (A : List UInt8) : Prop :=
  ∃ v, Bk w b #[v] 92 ∧ base ≤ b ∧ Ow w base 5 1 v A.length (A.map b8)
abbrev WrC (base : Nat) (w w' : World) : Prop := Ch (Tb base w [92, 5]) w w'
theorem Tb.trans {base : Nat} {w0 w1 w2 : World} {ts : List TypeId} (h : Ch (Tb base w0 ts) w0 w1) (k : Ch (Tb base w1 ts) w1 w2) : Ch (Tb base w0 ts) w0 w2 :=
  h.fresh k fun i hi hT => by
    apply Classical.byContradiction
    intro hn
    obtain ⟨h1, cs, t, fr, h2, h3⟩ := hT
    exact hn ⟨h1, cs, t, fr, by rw [← h.blk i hi hn]; exact h2, h3⟩
theorem WrC.nw {base : Nat} {w0 w1 w2 : World} (h : WrC base w0 w1) (c : Nw w1 w2) : WrC base w0 w2 := h.fresh c fun i hi x => x.elim
theorem WrC.own {base n : Nat} {w0 w1 w2 : World} {v : Value} {xs : List Value} (h : WrC base w0 w1) (hO : Ow w1 base 5 1 v n xs) (c : Ch (fun j => v.ownBlock = some j) w1 w2) : WrC base w0 w2 :=
  Tb.trans h (c.mono fun i _ hi => by obtain ⟨cs, hb⟩ := hO.bk hi; exact Tb.of_bk hb (by decide) (ow_base hO hi))
theorem WrC.at {base b : Nat} {w0 w1 w2 : World} {cs : Array Value} (h : WrC base w0 w1) (hb : Bk w1 b cs 92) (h0 : base ≤ b) (c : Ch (fun j => j = b) w1 w2) : WrC base w0 w2 :=
  Tb.trans h (c.mono fun i _ hi => by have e : i = b := hi; rw [e]; exact Tb.of_bk hb (by decide) h0)
theorem WrAt.nw {base : Nat} {w w' : World} {b : Nat} {A : List UInt8} (h : WrAt base w b A) (c : Nw w w') : WrAt base w' b A := by
  obtain ⟨v, h1, h2, h3⟩ := h
  exact ⟨v, h1.ch c not_no, h2, h3.nw c⟩
def ucells (l : List Nat) : List Value := l.map fun (x : Nat) => .int .u64 (x : Int)
theorem ucells_get (l : List Nat) (i : Nat) (h : i < l.length) : (ucells l)[i]? = some (.int .u64 (l[i] : Int)) := by simp [ucells, h]
def icells (l : List Int) : List Value := l.map fun x => .int .i64 x
theorem icells_get (l : List Int) (i : Nat) (h : i < l.length) : (icells l)[i]? = some (.int .i64 l[i]) := by simp [icells, h]
theorem write_walk  (w0 : World) : Does Tryz.prog 30 #[] w0 (fun r w' => ∃ b, r = .pointer (some ⟨b, 0, none⟩) ∧ WrAt w0.heap.size w' b [] ∧ Nw w0 w') := by
  refine fn_of (n := 3) (args := []) Tryz.func30 rfl rfl rfl (W_seq (W_region (L_r (r_ap rfl) (L_nil (W_seq (W_region ?_))))))
  refine L_r (r_build1 (pl := [(0, 1)]) (vs := []) (cells := [_]) Tryz.underlying92 rfl rfl (by rfl) rfl (by rfl)) ?_
  refine L_new (.plain rfl) rfl rfl (r_boxa rfl) (fun w1 b2 hb2 eb1 hs1 c1 => (L_r (r_ap rfl) (L_nil (W_ret ?_))))
  refine ret1 (v := .pointer _) rfl rfl ?_
  exact ⟨_, rfl, ⟨_, Bk.au, by omega, Ow.nil _ _ _ _⟩, Ch.au⟩
theorem clone_walk (v : Value) (l : List UInt8) (w0 : World) (hv : Sl w0 v 1 l.length (l.map b8)) (hl : l.length ≤ 100000000) : Does Tryz.prog 86 #[v] w0 (fun r w' => ∃ v', r = v' ∧ Ow w' w0.heap.size 5 1 v' l.length (l.map b8) ∧ Nw w0 w') := by
  refine fn_of (n := 8) (args := [v]) Tryz.func86 rfl rfl rfl (W_seq (W_region (L_r (r_av) (L_nil (W_seq (W_seq (W_region (L_r (r_mv) ?_))))))))
  refine L_r (r_eqnilSl Tryz.underlying31 (by conv => lhs; whnf) rfl Sl.au) (L_nil ?_)
  refine W_bool rfl (fun h4 => ?_) (fun h4 => ?_)
  ·
   refine W_seq (W_region (L_r (r_av) (L_nil (W_ret ?_))))
   refine ret1 rfl (by conv => lhs; whnf) ?_
   first
     | (obtain ⟨hq, hq2⟩ := nilS_true hv (by assumption)
        refine ⟨_, rfl, ?_, Ch.au⟩
        have : l = [] := List.eq_nil_of_length_eq_zero hq2
        subst this
        exact Ow.nil _ _ _ _)
     | (refine ⟨_, rfl, ?_, Ch.au⟩
        rw [Nat.zero_add, List.nil_append] at ho7
        exact Ow.mono ho7 (by omega))
  ·
   refine W_skip (W_seq (W_region ?_))
   refine L_build0 (sz := 1) Tryz.underlying31 rfl (.plain rfl) rfl (fun v5 w1 ho5 eb1 nl5 hs1 c1 => (L_r (r_mv) ?_))
   refine L_apow Tryz.underlying31 bytes_info rfl (by decide) (.plain rfl) rfl (by conv => lhs; whnf) (by conv => lhs; whnf) (Ow.of Own.au) Sl.au (b8_oneCell l) (by unfold maxLen; omega) (by omega) (by omega) (fun v7 w2 ho7 c2 hob7 => ?_)
   have hz2 := c2.size
   refine L_r (r_av) (L_nil (W_ret ?_))
   refine ret1 rfl (by conv => lhs; whnf) ?_
   first
     | (obtain ⟨hq, hq2⟩ := nilS_true hv (by assumption)
        refine ⟨_, rfl, ?_, Ch.au⟩
        have : l = [] := List.eq_nil_of_length_eq_zero hq2
        subst this
        exact Ow.nil _ _ _ _)
     | (refine ⟨_, rfl, ?_, Ch.au⟩
        rw [Nat.zero_add, List.nil_append] at ho7
        exact Ow.mono ho7 (by omega))
theorem wnum_walk (base base' b : Nat) (A : List UInt8) (v : Value) (l : List Nat) (w0 : World) (hW : WrAt base w0 b A) (hv : Ow w0 base' 80 1 v l.length (ucells l)) (hl : ∀ x ∈ l, x ≤ 18446744073709551615) (hAl : A.length + 10 * l.length ≤ 100000000) (hb : base ≤ w0.heap.size) : Does Tryz.prog 52 #[.pointer (some ⟨b, 0, none⟩), v] w0 (fun r w' => r = .tuple #[] ∧ WrAt base w' b (A ++ l.flatMap varL) ∧ WrC base w0 w') := by
  obtain ⟨q, hq1, hq2, hq3⟩ := hW
  have hvb := ow_nb hv hq1 (by decide)
  have hvs := hv.sl
  refine fn_of (n := 23) (args := [.pointer (some ⟨b, 0, none⟩), v]) Tryz.func52 rfl rfl rfl (W_seq (W_region (L_r (r_mv) ?_)))
  refine L_r (r_lenSl Tryz.underlying132 (by conv => lhs; whnf) Sl.au) (L_r (r_mi rfl) (L_nil (W_block ?_)))
  refine W_loopF [0, 6, 7] (fun mz_ f W => ∃ (i : Nat) (B : List UInt8) (vv : Value), f 8 = .int .i64 i ∧ (i ≤ l.length ∧ B = A ++ (l.take i).flatMap varL ∧ B.length ≤ A.length + 10 * i ∧ Bk W b #[vv] 92 ∧ Ow W base 5 1 vv B.length (B.map b8) ∧ Ow W base' 80 1 v l.length (ucells l) ∧ WrC base w0 W) ∧ mz_ = l.length - i) ?_ ?_
  ·
   refine ⟨_, 0, A, q, rfl, ?_, rfl⟩
   exact ⟨by omega, by simp, by omega, Bk.au, Ow.au, Ow.au, Ch.au⟩
  rintro m0 g0 w1 ⟨i, B, vv, hf8, hR0, rfl⟩
  refine W_as 8 hf8 rfl ?_
  clear hf8
  obtain ⟨hi, hB, hBl, hbk, hO, hvi, hcw⟩ := hR0
  have hz := hcw.size
  have hnb := ow_nb hO hbk (by decide)
  have hsep := ow_apart hvi hO (by decide)
  refine W_seq (W_region (L_r (r_lss rfl rfl) (L_nil (W_seq ?_))))
  refine W_if rfl (fun h9 => ?_) (fun h9 => ?_)
  ·
   have hin : i < l.length := by omega
   have hli := hl l[i] (List.getElem_mem hin)
   have hten := varL_ten hli
   refine W_skip (W_seq (W_block (W_seq (W_region ?_))))
   refine L_r (r_ix Tryz.underlying132 (show _ = some 1 from rfl) (by conv => lhs; whnf) rfl Sl.au) ?_
   refine L_r (r_loadSl rfl rfl Sl.au (by first | assumption | exact ucells_get _ _ (by omega) | (conv => lhs; simp only [List.getElem?_toArray, List.getElem?_cons_succ, List.getElem?_cons_zero]))) ?_
   refine L_r (r_ai rfl) (L_nil ?_)
   refine W_draw (fun W => Bk W b #[vv] 92) 10 (m := 11) (by kernel_rfl) rfl (fun w2 c2 hs2 => ?_)
   refine held Bk.au (fun hS => ?_)
   refine D_t 0 rfl (fun W hW => r_mp rfl) ?_
   refine D_t 1 rfl (fun W hW => r_mp rfl) ?_
   refine D_t 2 rfl (fun W hW => r_nilCheck rfl) ?_
   refine D_t 3 rfl (fun W hW => r_fieldb Tryz.underlying92 rfl (show _ = some 1 from rfl) rfl rfl (show _ = 0 from rfl)) ?_
   refine D_t 4 rfl (fun W hW => r_loadb rfl rfl (by exact hW) (by first | assumption | (conv => lhs; simp only [List.getElem?_toArray, List.getElem?_cons_succ, List.getElem?_cons_zero]))) ?_
   refine D_t 5 rfl (fun W hW => r_mi rfl) ?_
   refine D_ev 6 (by kernel_rfl) rfl ?_
   refine L_call (.plain rfl) rfl rfl (r_call Tryz.func113 rfl rfl rfl (by rfl)) (var_walk l[i] _ hli) ?_
   rintro v18 w3 ⟨v', rfl, hov, c3⟩
   have hz3 := c3.size
   have hsv := hov.sl
   refine L_nil ?_
   refine heldK Bk.au (fun hS => ?_)
   refine D_ev 7 (by kernel_rfl) rfl ?_
   have hO2 : Ow w3 base 5 1 vv B.length (B.map b8) := Ow.to hO (fun i hi => Sm.au)
   have hbk2 : Bk w3 b #[vv] 92 := Bk.au
   have hcx : WrC base w0 w3 := Ch.au
   refine L_apow Tryz.underlying31 bytes_info rfl (by decide) (.plain rfl) rfl (by conv => lhs; whnf) (by conv => lhs; whnf) hO2 Sl.au (b8_oneCell _) (by unfold maxLen; omega) (by omega) (by omega) (fun v19 w4 ho19 c4 hob19 => ?_)
   have hz4 := c4.size
   have hcy := WrC.own hcx hO2 c4
   have hbk3 : Bk w4 b #[vv] 92 := hbk2.ch c4 (fun e => hnb e)
   have hn19 : v19.ownBlock ≠ some b := fun e => by rcases hob19 _ e with h | h; exact hnb h; (have := hbk2.lt; omega)
   have hO3 := ho19
   clear hcx
   have cL4 := c4
   refine L_nil ?_
   refine heldK Bk.au (fun hS => ?_)
   refine D_ev 8 (by kernel_rfl) rfl (L_r (r_nilCheck rfl) (L_nil ?_))
   refine heldK Bk.au (fun hS => ?_)
   refine D_t 9 rfl (fun W hW => r_fieldb Tryz.underlying92 rfl (show _ = some 1 from rfl) rfl rfl (show _ = 0 from rfl)) ?_
   refine D_ev 10 (by kernel_rfl) rfl ?_
   refine L_set (.plain rfl) rfl Bk.au (r_store rfl rfl (by conv => lhs; whnf) (by first | rfl | exact ow_one (by assumption) | exact own_one (by assumption) | exact sl_one (by assumption)) Bk.au (by first | decide | (simp; done) | omega)) (fun w5 hb5 hs5 c5 => ?_)
   try simp only [List.setIfInBounds_toArray, List.set_cons_zero, List.set_cons_succ] at hb5
   refine L_nil ?_
   refine heldL ?_
   refine D_done (by kernel_rfl) (W_region ?_)
   refine L_r (r_add rfl rfl (by first | exact wr_i64 (by omega) | rfl)) (L_r (r_mi rfl) (L_nil ?_))
   refine ⟨⟨fx2, fx2, fx2, trivial⟩, _, ?_, i + 1, B ++ varL l[i], v19, rfl, ?_, rfl⟩
   · omega
   refine ⟨by omega, by rw [List.take_succ_eq_append_getElem (by omega), List.flatMap_append, hB]; simp, by rw [List.length_append]; omega, Bk.au, ?_, Ow.au, ?_⟩
   ·
    rw [List.length_append, List.map_append]
    (exact Ow.au)
   · exact WrC.at hcy hbk3 hq2 (by assumption)
  ·
   refine W_exit ?_
   repeat (first | refine blk_hit ?_ | refine blk_miss rfl ?_)
   refine ret0 rfl  ?_
   exact ⟨rfl, ⟨vv, Bk.au, hq2, by rw [hB, show i = l.length by omega, List.take_length] at hO; exact hO⟩, Ch.au⟩
theorem ow_lit {w : World} {base n : Nat} {v : Value} {xs : List Value} {e : Nat} (h : w.ownsRow base e 1 v n xs) : Ow w base e 1 v n xs := Ow.of h
theorem wint_walk (base base' b : Nat) (A : List UInt8) (v : Value) (l : List Int) (w0 : World) (hW : WrAt base w0 b A) (hv : Ow w0 base' 2 1 v l.length (icells l)) (hl : ∀ x ∈ l, -9223372036854775808 ≤ x ∧ x ≤ 9223372036854775807) (hAl : A.length + 10 * l.length ≤ 95000000) (hb : base ≤ w0.heap.size) : Does Tryz.prog 139 #[.pointer (some ⟨b, 0, none⟩), v] w0 (fun r w' => r = .tuple #[] ∧ WrAt base w' b (A ++ l.flatMap fun n => varL (zigI n).toNat) ∧ WrC base w0 w') := by
  have hvs := hv.sl
  refine fn_of (n := 18) (args := [.pointer (some ⟨b, 0, none⟩), v]) Tryz.func139 rfl rfl rfl (W_seq (W_region (L_r (r_mv) ?_)))
  refine L_r (r_lenSl Tryz.underlying172 (by conv => lhs; whnf) Sl.au) (L_r (r_mi rfl) (L_nil (W_block ?_)))
  refine W_loopF [0, 6, 7] (fun mz_ f W => ∃ (i : Nat) (B : List UInt8), f 8 = .int .i64 i ∧ (i ≤ l.length ∧ B = A ++ ((l.take i).flatMap fun n => varL (zigI n).toNat) ∧ B.length ≤ A.length + 10 * i ∧ WrAt base W b B ∧ Ow W base' 2 1 v l.length (icells l) ∧ WrC base w0 W) ∧ mz_ = l.length - i) ?_ ?_
  ·
   refine ⟨_, 0, A, rfl, ?_, rfl⟩
   exact ⟨by omega, by simp, by omega, hW.nw Ch.au, Ow.au, Ch.au⟩
  rintro m0 g0 w1 ⟨i, B, hf8, hR0, rfl⟩
  refine W_as 8 hf8 rfl ?_
  clear hf8
  obtain ⟨hi, hB, hBl, hWi, hvi, hcw⟩ := hR0
  have hz := hcw.size
  refine W_seq (W_region (L_r (r_lss rfl rfl) (L_nil (W_seq ?_))))
  refine W_if rfl (fun h9 => ?_) (fun h9 => ?_)
  ·
   have hin : i < l.length := by omega
   have hli := hl l[i] (List.getElem_mem hin)
   have hzg : 0 ≤ zigI l[i] ∧ zigI l[i] ≤ 18446744073709551615 := by unfold zigI; split <;> omega
   have hten := varL_ten (v := (zigI l[i]).toNat) (by omega)
   refine W_skip (W_seq (W_block (W_seq (W_region ?_))))
   refine L_r (r_ix Tryz.underlying172 (show _ = some 1 from rfl) (by conv => lhs; whnf) rfl Sl.au) ?_
   refine L_r (r_loadSl rfl rfl Sl.au (by first | assumption | exact icells_get _ _ (by omega) | (conv => lhs; simp only [List.getElem?_toArray, List.getElem?_cons_succ, List.getElem?_cons_zero]))) ?_
   refine L_r (r_ai rfl) (L_nil (W_region (L_r (r_mp rfl) (L_r (r_mi rfl) ?_))))
   refine L_call (.plain rfl) rfl rfl (r_call Tryz.func169 rfl rfl rfl (by rfl)) (zig_walk l[i] _ hli) ?_
   rintro v14 w2 ⟨rfl, rfl⟩
   refine L_build1o [.int _ _] Tryz.underlying132 rfl rfl rfl (.plain rfl) rfl (by rfl) (by rfl) (by rfl) (fun v15 w3 ho15 eb3 hs3 c3 => ?_)
   have hol := ow_lit ho15
   have hco : WrC base w0 w3 := WrC.nw hcw Ch.au
   have hvx := hvi.nw (Ch.au : Nw _ w3)
   have e15 : [Value.int .u64 (zigI l[i])] = ucells [(zigI l[i]).toNat] := by
     show _ = [Value.int .u64 (((zigI l[i]).toNat : Nat) : Int)]
     rw [show (((zigI l[i]).toNat : Nat) : Int) = zigI l[i] by omega]
   rw [e15] at hol
   have hWx := hWi.nw (Ch.au : Nw _ w3)
   refine L_call (.plain rfl) rfl rfl (r_call Tryz.func52 rfl rfl rfl (by rfl)) (wnum_walk base _ b B _ [(zigI l[i]).toNat] _ hWx hol (by intro x hx; rw [List.mem_singleton] at hx; omega) (by show B.length + 10 * 1 ≤ _; omega) (by omega)) ?_
   rintro v16 w4 ⟨rfl, hWn, c4⟩
   have hz4 := c4.size
   have hW9 : WrAt base w4 b (B ++ varL (zigI l[i]).toNat) := by have h := hWn; rw [List.flatMap_singleton] at h; exact h
   have hc9 := Tb.trans hco c4
   have hv9 := hvx.tb c4 rfl
   refine L_nil (W_region ?_)
   refine L_r (r_add rfl rfl (by first | exact wr_i64 (by omega) | rfl)) (L_r (r_mi rfl) (L_nil ?_))
   refine ⟨⟨fx2, fx2, fx2, trivial⟩, _, ?_, i + 1, B ++ varL (zigI l[i]).toNat, rfl, ?_, rfl⟩
   · omega
   exact ⟨by omega, by rw [List.take_succ_eq_append_getElem (by omega), List.flatMap_append, hB]; simp, by rw [List.length_append]; omega, hW9.nw Ch.au, hv9.nw Ch.au, WrC.nw hc9 Ch.au⟩
  ·
   refine W_exit ?_
   repeat (first | refine blk_hit ?_ | refine blk_miss rfl ?_)
   refine ret0 rfl  ?_
   exact ⟨rfl, by rw [hB, show i = l.length by omega, List.take_length] at hWi; exact hWi.nw Ch.au, WrC.nw hcw Ch.au⟩
def bcells (l : List Bool) : List Value := l.map fun x => .bool x
theorem bcells_get (l : List Bool) (i : Nat) (h : i < l.length) : (bcells l)[i]? = some (.bool l[i]) := by simp [bcells, h]
def scells (l : List ByteArray) : List Value := l.map fun x => .string x
theorem scells_get (l : List ByteArray) (i : Nat) (h : i < l.length) : (scells l)[i]? = some (.string l[i]) := by simp [scells, h]
theorem wflag_walk (base base' b : Nat) (A : List UInt8) (v : Value) (l : List Bool) (w0 : World) (hW : WrAt base w0 b A) (hv : Ow w0 base' 4 1 v l.length (bcells l)) (hAl : A.length + l.length ≤ 95000000) (hb : base ≤ w0.heap.size) : Does Tryz.prog 78 #[.pointer (some ⟨b, 0, none⟩), v] w0 (fun r w' => r = .tuple #[] ∧ WrAt base w' b (A ++ l.flatMap flagL) ∧ WrC base w0 w') := by
  obtain ⟨q, hq1, hq2, hq3⟩ := hW
  have hvb := ow_nb hv hq1 (by decide)
  have hvs := hv.sl
  refine fn_of (n := 25) (args := [.pointer (some ⟨b, 0, none⟩), v]) Tryz.func78 rfl rfl rfl (W_seq (W_region (L_r (r_mv) ?_)))
  refine L_r (r_lenSl Tryz.underlying145 (by conv => lhs; whnf) Sl.au) (L_r (r_mi rfl) (L_nil (W_block ?_)))
  refine W_loopF [0, 7, 8] (fun mz_ f W => ∃ (i : Nat) (B : List UInt8) (vv : Value), f 9 = .int .i64 i ∧ (i ≤ l.length ∧ B = A ++ (l.take i).flatMap flagL ∧ B.length = A.length + i ∧ Bk W b #[vv] 92 ∧ Ow W base 5 1 vv B.length (B.map b8) ∧ Ow W base' 4 1 v l.length (bcells l) ∧ WrC base w0 W) ∧ mz_ = l.length - i) ?_ ?_
  ·
   refine ⟨_, 0, A, q, rfl, ?_, rfl⟩
   exact ⟨by omega, by simp, by omega, Bk.au, Ow.au, Ow.au, Ch.au⟩
  rintro m0 g0 w1 ⟨i, B, vv, hf9, hR0, rfl⟩
  refine W_as 9 hf9 rfl ?_
  clear hf9
  obtain ⟨hi, hB, hBl, hbk, hO, hvi, hcw⟩ := hR0
  have hz := hcw.size
  have hnb := ow_nb hO hbk (by decide)
  have hsep := ow_apart hvi hO (by decide)
  refine W_seq (W_region (L_r (r_lss rfl rfl) (L_nil (W_seq ?_))))
  refine W_if rfl (fun h10 => ?_) (fun h10 => ?_)
  ·
   have hin : i < l.length := by omega
   refine W_skip (W_seq (W_block (W_seq (W_region ?_))))
   refine L_r (r_ix Tryz.underlying145 (show _ = some 1 from rfl) (by conv => lhs; whnf) rfl Sl.au) ?_
   refine L_r (r_loadSl rfl rfl Sl.au (by first | assumption | exact bcells_get _ _ (by omega) | (conv => lhs; simp only [List.getElem?_toArray, List.getElem?_cons_succ, List.getElem?_cons_zero]))) ?_
   refine L_r (r_ab rfl) (L_nil (W_seq (W_region (L_r (r_ai rfl) (L_nil (W_seq (W_seq (W_region ?_))))))))
   refine L_r (r_mb rfl) (L_nil ?_)
   refine W_bool rfl (fun h13 => ?_) (fun h13 => ?_)
   ·
    refine W_region (L_r (r_ai rfl) (L_nil (W_region (L_r (r_mp rfl) (L_r (r_mp rfl) (L_r (r_nilCheck rfl) ?_))))))
    refine L_r (r_fieldb Tryz.underlying92 rfl (show _ = some 1 from rfl) rfl rfl (show _ = 0 from rfl)) (L_r (r_lb rfl rfl) (L_r (r_mi rfl) ?_))
    refine L_build1 [.int _ _] Tryz.underlying31 rfl rfl rfl (.plain rfl) rfl (by rfl) (by rfl) (by rfl) (fun b20 w2 hb20 hv20 eb2 hs2 c2 => ?_)
    have hB20 : Sl w2 (.slice (some ⟨b20, 0, none⟩) 1 1) 1 1 ((flagL l[i]).map b8) := by
      have e : (flagL l[i]).map b8 = [if l[i] = true then Value.int .u8 1 else Value.int .u8 0] := by cases l[i] <;> rfl
      rw [e]
      first
        | (rw [if_pos (by assumption)]; exact hv20)
        | (rw [if_neg (by simp_all)]; exact hv20)
    have hf1 : (flagL l[i]).length = 1 := by unfold flagL; split <;> rfl
    have hO2 : Ow w2 base 5 1 vv B.length (B.map b8) := Ow.to hO (fun i hi => Sm.au)
    have hbk2 : Bk w2 b #[vv] 92 := Bk.au
    have hcx : WrC base w0 w2 := Ch.au
    refine L_apow Tryz.underlying31 bytes_info rfl (by decide) (.plain rfl) rfl (by conv => lhs; whnf) (by conv => lhs; whnf) hO2 hB20 (b8_oneCell _) (by unfold maxLen; omega) (by omega) (by omega) (fun v21 w3 ho21 c3 hob21 => ?_)
    have hz3 := c3.size
    have hcy := WrC.own hcx hO2 c3
    have hbk3 : Bk w3 b #[vv] 92 := hbk2.ch c3 (fun e => hnb e)
    have hn21 : v21.ownBlock ≠ some b := fun e => by rcases hob21 _ e with h | h; exact hnb h; (have := hbk2.lt; omega)
    clear hcx
    have cL3 := c3
    refine L_r (r_nilCheck rfl) ?_
    refine L_r (r_fieldb Tryz.underlying92 rfl (show _ = some 1 from rfl) rfl rfl (show _ = 0 from rfl)) ?_
    refine L_set (.plain rfl) rfl Bk.au (r_store rfl rfl (by conv => lhs; whnf) (by first | rfl | exact ow_one (by assumption) | exact own_one (by assumption) | exact sl_one (by assumption)) Bk.au (by first | decide | (simp; done) | omega)) (fun w4 hb4 hs4 c4 => ?_)
    try simp only [List.setIfInBounds_toArray, List.set_cons_zero, List.set_cons_succ] at hb4
    refine L_nil (W_region ?_)
    refine L_r (r_add rfl rfl (by first | exact wr_i64 (by omega) | rfl)) (L_r (r_mi rfl) (L_nil ?_))
    refine ⟨⟨fx2, fx2, fx2, trivial⟩, _, ?_, i + 1, B ++ flagL l[i], v21, rfl, ?_, rfl⟩
    · omega
    have hf1 : (flagL l[i]).length = 1 := by unfold flagL; split <;> rfl
    refine ⟨by omega, by rw [List.take_succ_eq_append_getElem (by omega), List.flatMap_append, hB]; simp, by rw [List.length_append]; omega, Bk.au, ?_, Ow.au, ?_⟩
    ·
     rw [List.length_append, List.map_append, hf1]
     (exact Ow.au)
    · exact WrC.at hcy hbk3 hq2 (by assumption)
   ·
    refine W_skip (W_region (L_r (r_mp rfl) (L_r (r_mp rfl) (L_r (r_nilCheck rfl) ?_))))
    refine L_r (r_fieldb Tryz.underlying92 rfl (show _ = some 1 from rfl) rfl rfl (show _ = 0 from rfl)) (L_r (r_lb rfl rfl) (L_r (r_mi rfl) ?_))
    refine L_build1 [.int _ _] Tryz.underlying31 rfl rfl rfl (.plain rfl) rfl (by rfl) (by rfl) (by rfl) (fun b20 w5 hb20 hv20 eb5 hs5 c5 => ?_)
    have hB20 : Sl w5 (.slice (some ⟨b20, 0, none⟩) 1 1) 1 1 ((flagL l[i]).map b8) := by
      have e : (flagL l[i]).map b8 = [if l[i] = true then Value.int .u8 1 else Value.int .u8 0] := by cases l[i] <;> rfl
      rw [e]
      first
        | (rw [if_pos (by assumption)]; exact hv20)
        | (rw [if_neg (by simp_all)]; exact hv20)
    have hf1 : (flagL l[i]).length = 1 := by unfold flagL; split <;> rfl
    have hO2 : Ow w5 base 5 1 vv B.length (B.map b8) := Ow.to hO (fun i hi => Sm.au)
    have hbk2 : Bk w5 b #[vv] 92 := Bk.au
    have hcx : WrC base w0 w5 := Ch.au
    refine L_apow Tryz.underlying31 bytes_info rfl (by decide) (.plain rfl) rfl (by conv => lhs; whnf) (by conv => lhs; whnf) hO2 hB20 (b8_oneCell _) (by unfold maxLen; omega) (by omega) (by omega) (fun v21 w6 ho21 c6 hob21 => ?_)
    have hz6 := c6.size
    have hcy := WrC.own hcx hO2 c6
    have hbk3 : Bk w6 b #[vv] 92 := hbk2.ch c6 (fun e => hnb e)
    have hn21 : v21.ownBlock ≠ some b := fun e => by rcases hob21 _ e with h | h; exact hnb h; (have := hbk2.lt; omega)
    clear hcx
    have cL6 := c6
    refine L_r (r_nilCheck rfl) ?_
    refine L_r (r_fieldb Tryz.underlying92 rfl (show _ = some 1 from rfl) rfl rfl (show _ = 0 from rfl)) ?_
    refine L_set (.plain rfl) rfl Bk.au (r_store rfl rfl (by conv => lhs; whnf) (by first | rfl | exact ow_one (by assumption) | exact own_one (by assumption) | exact sl_one (by assumption)) Bk.au (by first | decide | (simp; done) | omega)) (fun w7 hb7 hs7 c7 => ?_)
    try simp only [List.setIfInBounds_toArray, List.set_cons_zero, List.set_cons_succ] at hb7
    refine L_nil (W_region ?_)
    refine L_r (r_add rfl rfl (by first | exact wr_i64 (by omega) | rfl)) (L_r (r_mi rfl) (L_nil ?_))
    refine ⟨⟨fx2, fx2, fx2, trivial⟩, _, ?_, i + 1, B ++ flagL l[i], v21, rfl, ?_, rfl⟩
    · omega
    have hf1 : (flagL l[i]).length = 1 := by unfold flagL; split <;> rfl
    refine ⟨by omega, by rw [List.take_succ_eq_append_getElem (by omega), List.flatMap_append, hB]; simp, by rw [List.length_append]; omega, Bk.au, ?_, Ow.au, ?_⟩
    ·
     rw [List.length_append, List.map_append, hf1]
     (exact Ow.au)
    · exact WrC.at hcy hbk3 hq2 (by assumption)
  ·
   refine W_exit ?_
   repeat (first | refine blk_hit ?_ | refine blk_miss rfl ?_)
   refine ret0 rfl  ?_
   exact ⟨rfl, ⟨vv, Bk.au, hq2, by rw [hB, show i = l.length by omega, List.take_length] at hO; exact hO⟩, Ch.au⟩
def textL (s : ByteArray) : List UInt8 := varL s.size ++ bs s
theorem wtext_walk (base base' b : Nat) (A : List UInt8) (v : Value) (l : List ByteArray) (w0 : World) (hW : WrAt base w0 b A) (hv : Ow w0 base' 9 1 v l.length (scells l)) (hl : ∀ s ∈ l, s.size ≤ 10000) (hln : l.length ≤ 100) (hAl : A.length ≤ 95000000) (hb : base ≤ w0.heap.size) : Does Tryz.prog 76 #[.pointer (some ⟨b, 0, none⟩), v] w0 (fun r w' => r = .tuple #[] ∧ WrAt base w' b (A ++ l.flatMap textL) ∧ WrC base w0 w') := by
  have hvs := hv.sl
  refine fn_of (n := 28) (args := [.pointer (some ⟨b, 0, none⟩), v]) Tryz.func76 rfl rfl rfl (W_seq (W_region (L_r (r_mv) ?_)))
  refine L_r (r_lenSl Tryz.underlying22 (by conv => lhs; whnf) Sl.au) (L_r (r_mi rfl) (L_nil (W_block ?_)))
  refine W_loopF [0, 6, 7] (fun mz_ f W => ∃ (i : Nat) (B : List UInt8), f 8 = .int .i64 i ∧ (i ≤ l.length ∧ B = A ++ (l.take i).flatMap textL ∧ B.length ≤ A.length + 10010 * i ∧ WrAt base W b B ∧ Ow W base' 9 1 v l.length (scells l) ∧ WrC base w0 W) ∧ mz_ = l.length - i) ?_ ?_
  ·
   refine ⟨_, 0, A, rfl, ?_, rfl⟩
   exact ⟨by omega, by simp, by omega, hW.nw Ch.au, Ow.au, Ch.au⟩
  rintro m0 g0 w1 ⟨i, B, hf8, hR0, rfl⟩
  refine W_as 8 hf8 rfl ?_
  clear hf8
  obtain ⟨hi, hB, hBl, hWi, hvi, hcw⟩ := hR0
  have hz := hcw.size
  refine W_seq (W_region (L_r (r_lss rfl rfl) (L_nil (W_seq ?_))))
  refine W_if rfl (fun h9 => ?_) (fun h9 => ?_)
  ·
   have hin : i < l.length := by omega
   have hli := hl l[i] (List.getElem_mem hin)
   have hten := varL_ten (v := l[i].size) (by omega)
   refine W_skip (W_seq (W_block (W_seq (W_region ?_))))
   refine L_r (r_ix Tryz.underlying22 (show _ = some 1 from rfl) (by conv => lhs; whnf) rfl Sl.au) ?_
   refine L_r (r_loadSl rfl rfl Sl.au (by first | assumption | exact scells_get _ _ (by omega) | (conv => lhs; simp only [List.getElem?_toArray, List.getElem?_cons_succ, List.getElem?_cons_zero]))) ?_
   refine L_r (r_as rfl) (L_nil (W_seq (W_region (L_r (r_mp rfl) (L_r (r_ms rfl) ?_)))))
   refine L_r (r_lens Tryz.underlying9 rfl) ?_
   refine L_r (r_conv Tryz.underlying3 Tryz.underlying80 rfl (by first | exact wr_u64 (by omega) | rfl)) ?_
   refine L_build1o [.int _ _] Tryz.underlying132 rfl rfl rfl (.plain rfl) rfl (by rfl) (by rfl) (by rfl) (fun v16 w2 ho16 eb2 hs2 c2 => ?_)
   have hol := ow_lit ho16
   have hco : WrC base w0 w2 := WrC.nw hcw Ch.au
   have hvx := hvi.nw (Ch.au : Nw _ w2)
   have hWx := hWi.nw (Ch.au : Nw _ w2)
   refine L_call (.plain rfl) rfl rfl (r_call Tryz.func52 rfl rfl rfl (by rfl)) (wnum_walk base _ b B _ [l[i].size] _ hWx hol (by intro x hx; rw [List.mem_singleton] at hx; omega) (by show B.length + 10 * 1 ≤ _; omega) (by omega)) ?_
   rintro v17 w3 ⟨rfl, hWn, c3⟩
   have hz3 := c3.size
   have hW9 : WrAt base w3 b (B ++ varL l[i].size) := by have h := hWn; rw [List.flatMap_singleton] at h; exact h
   have hc9 := Tb.trans hco c3
   have hv9 := hvx.tb c3 rfl
   obtain ⟨vv, hx1, hx2, hx3⟩ := hW9
   have hvb := ow_nb hv9 hx1 (by decide)
   have hnb := ow_nb hx3 hx1 (by decide)
   have hsep := ow_apart hv9 hx3 (by decide)
   refine L_nil (W_region (L_r (r_mp rfl) (L_r (r_mp rfl) (L_r (r_nilCheck rfl) ?_))))
   refine L_r (r_fieldb Tryz.underlying92 rfl (show _ = some 1 from rfl) rfl rfl (show _ = 0 from rfl)) (L_r (r_lb rfl rfl) (L_r (r_ms rfl) ?_))
   have hO2 : Ow w3 base 5 1 vv (B ++ varL l[i].size).length ((B ++ varL l[i].size).map b8) := Ow.to hx3 (fun i hi => Sm.au)
   have hbk2 : Bk w3 b #[vv] 92 := Bk.au
   have hvi9 := hv9.nw (Ch.au : Nw _ w3)
   have hcx : WrC base w0 w3 := WrC.nw hc9 Ch.au
   have hle : (B ++ varL l[i].size).length ≤ B.length + 10 := by rw [List.length_append]; omega
   refine L_apows Tryz.underlying31 Tryz.underlying9 bytes_info (.plain rfl) rfl (by conv => lhs; whnf) rfl hO2 (by unfold maxLen; omega) (by omega) (by omega) (fun v24 w4 ho24 c4 hob24 => ?_)
   have hz4 := c4.size
   have hcy := WrC.own hcx hO2 c4
   have hbk3 : Bk w4 b #[vv] 92 := hbk2.ch c4 (fun e => hnb e)
   have hn24 : v24.ownBlock ≠ some b := fun e => by rcases hob24 _ e with h | h; exact hnb h; (have := hbk2.lt; omega)
   clear hcx
   have cL4 := c4
   refine L_r (r_nilCheck rfl) ?_
   refine L_r (r_fieldb Tryz.underlying92 rfl (show _ = some 1 from rfl) rfl rfl (show _ = 0 from rfl)) ?_
   refine L_set (.plain rfl) rfl Bk.au (r_store rfl rfl (by conv => lhs; whnf) (by first | rfl | exact ow_one (by assumption) | exact own_one (by assumption) | exact sl_one (by assumption)) Bk.au (by first | decide | (simp; done) | omega)) (fun w5 hb5 hs5 c5 => ?_)
   try simp only [List.setIfInBounds_toArray, List.set_cons_zero, List.set_cons_succ] at hb5
   refine L_nil (W_region ?_)
   refine L_r (r_add rfl rfl (by first | exact wr_i64 (by omega) | rfl)) (L_r (r_mi rfl) (L_nil ?_))
   refine ⟨⟨fx2, fx2, fx2, trivial⟩, _, ?_, i + 1, B ++ textL l[i], rfl, ?_, rfl⟩
   · omega
   refine ⟨by omega, by rw [List.take_succ_eq_append_getElem (by omega), List.flatMap_append, hB]; simp, by unfold textL; rw [List.length_append, List.length_append, bs_length]; omega, ⟨v24, by assumption, hx2, ?_⟩, ?_, ?_⟩
   ·
    rw [textL, ← List.append_assoc, List.length_append, bs_length, List.map_append]
    (exact Ow.au)
   · exact hvi9.to (fun i hi => Sm.au)
   · exact WrC.at hcy hbk3 hx2 (by assumption)
  ·
   refine W_exit ?_
   repeat (first | refine blk_hit ?_ | refine blk_miss rfl ?_)
   refine ret0 rfl  ?_
   exact ⟨rfl, by rw [hB, show i = l.length by omega, List.take_length] at hWi; exact hWi.nw Ch.au, WrC.nw hcw Ch.au⟩
theorem bytes_walk (base b : Nat) (A : List UInt8) (w0 : World) (hW : WrAt base w0 b A) (hAl : A.length ≤ 100000000) : Does Tryz.prog 32 #[.pointer (some ⟨b, 0, none⟩)] w0 (fun r w' => ∃ v', r = v' ∧ Ow w' w0.heap.size 5 1 v' A.length (A.map b8) ∧ Nw w0 w') := by
  obtain ⟨q, hq1, hq2, hq3⟩ := hW
  have hqs := hq3.sl
  refine fn_of (n := 8) (args := [.pointer (some ⟨b, 0, none⟩)]) Tryz.func32 rfl rfl rfl (W_seq (W_region (L_r (r_av) (L_nil (W_seq (W_region (L_r (r_mp rfl) (L_r (r_nilCheck rfl) ?_))))))))
  refine L_r (r_fieldb Tryz.underlying92 rfl (show _ = some 1 from rfl) rfl rfl (show _ = 0 from rfl)) (L_r (r_lb rfl rfl) ?_)
  refine L_call (.plain rfl) rfl rfl (r_call Tryz.func86 rfl rfl rfl (by rfl)) (clone_walk q A _ hqs hAl) ?_
  rintro v7 w1 ⟨v', rfl, hov, c1⟩
  have hz1 := c1.size
  refine L_r (r_av) (L_nil (W_ret ?_))
  refine ret1 rfl (by conv => lhs; whnf) ?_
  exact ⟨_, rfl, hov.mono (by omega), Ch.au⟩
end Go.Proofs.YthpknpfhpkkheaaGreatDoor

namespace Go.Proofs.YthpknpfhpkkheaaGreatDoor
open Go Go.RowKit
set_option linter.unusedVariables false
set_option maxRecDepth 100000
set_option linter.unusedSimpArgs false
/-- A number of bytes, from the i-th one on: the error, the number, how many bytes. -/
def numL (i : Nat) : List UInt8 → Int × Nat × Nat
  | [] => (10, 0, 0)
  | c :: t => if i = 9 ∧ 1 < c.toNat then (11, 0, 0) else if c.toNat < 128 then (if c.toNat = 0 ∧ 0 < i then (11, 0, 0) else (0, c.toNat, 1))
    else ((numL (i + 1) t).1, c.toNat % 128 + 128 * (numL (i + 1) t).2.1, (numL (i + 1) t).2.2 + 1)
/-- A reader: its bytes, where it is, its error. -/
structure RdAt (base : Nat) (w : World) (b : Nat) (v : Value) (l : List UInt8) (a : Nat) (e : Int) : Prop where
  bk : Bk w b #[v, .int .i64 (a : Int), .int .i64 e] 106
  hb : base ≤ b
  ow : Ow w base 5 1 v l.length (l.map b8)
  ha : a ≤ l.length
  hl : l.length ≤ 100000000
theorem RdAt.nw {base : Nat} {w w' : World} {b : Nat} {v : Value} {l : List UInt8} {a : Nat} {e : Int} (h : RdAt base w b v l a e) (c : Nw w w') : RdAt base w' b v l a e := ⟨h.bk.ch c not_no, h.hb, h.ow.nw c, h.ha, h.hl⟩
theorem RdAt.nov {base : Nat} {w : World} {b : Nat} {v : Value} {l : List UInt8} {a : Nat} {e : Int} (h : RdAt base w b v l a e) : v.ownBlock ≠ some b := ow_nb h.ow h.bk (by decide)
theorem b8_get (l : List UInt8) (i : Nat) (h : i < l.length) : (l.map b8)[i]? = some (.int .u8 (l[i].toNat : Int)) := by simp [h, b8]
theorem and_127 : ∀ y : Fin 256, y.val &&& 127 = y.val % 128 := by decide +kernel
theorem shl_step (x k : Nat) (hx : x < 18446744073709551616) (h : 2 ^ k * x < 18446744073709551616) :
    IntKind.u64.wrap (IntKind.u64.wrap (x : Int) * 2 ^ k) = ((2 ^ k * x : Nat) : Int) := by
  have e1 : IntKind.u64.wrap (x : Int) = x := by rw [IntKind.wrap_u64]; exact Int.emod_eq_of_lt (by omega) (by omega)
  have e2 : (x : Int) * 2 ^ k = ((2 ^ k * x : Nat) : Int) := by rw [Int.mul_comm]; simp
  rw [e1, e2, IntKind.wrap_u64]
  exact Int.emod_eq_of_lt (by omega) (by omega)
theorem or_step (V i c : Nat) (hV : V < 128 ^ i) (hi : i ≤ 9) (hc : c < 256) (h9 : i = 9 → c ≤ 1) :
    bits .or .u64 (V : Int) (IntKind.u64.wrap (IntKind.u64.wrap (bits .and .u8 (c : Int) 127) * 2 ^ min ((7 : Int) * i).toNat IntKind.u64.bits)) = ((V + 128 ^ i * (c % 128) : Nat) : Int) := by
  have h1 : bits .and .u8 (c : Int) 127 = ((c % 128 : Nat) : Int) := (u8_and_nat c 127 hc (by decide)).trans (by rw [and_127 ⟨c, hc⟩])
  have h2 : min ((7 : Int) * i).toNat IntKind.u64.bits = 7 * i := by show min _ 64 = _; omega
  have h3 : (128 : Nat) ^ i = 2 ^ (7 * i) := by rw [Nat.pow_mul]
  have h4 : 2 ^ (7 * i) * (c % 128) < 18446744073709551616 := by
    by_cases e : i = 9
    ·
     subst e
     have := h9 rfl
     have h5 : c % 128 ≤ 1 := by omega
     calc 2 ^ (7 * 9) * (c % 128) ≤ 2 ^ (7 * 9) * 1 := Nat.mul_le_mul_left _ h5
       _ < 18446744073709551616 := by decide
    ·
     have h5 : 2 ^ (7 * i) ≤ 2 ^ 56 := Nat.pow_le_pow_right (by decide) (by omega)
     calc 2 ^ (7 * i) * (c % 128) ≤ 2 ^ 56 * (c % 128) := Nat.mul_le_mul_right _ h5
       _ ≤ 2 ^ 56 * 127 := Nat.mul_le_mul_left _ (by omega)
       _ < 18446744073709551616 := by decide
  have h6 : V < 18446744073709551616 := by
    have : (128 : Nat) ^ i ≤ 128 ^ 9 := Nat.pow_le_pow_right (by decide) hi
    have h7 : (128 : Nat) ^ 9 < 18446744073709551616 := by decide
    omega
  rw [h1, h2, shl_step _ _ (by omega) h4, u64_or_nat _ _ h6 h4, h3]
  congr 1
  rw [Nat.or_comm, ← Nat.two_pow_add_eq_or_of_lt (by rw [← h3]; exact hV), Nat.add_comm]
theorem numL_step (i : Nat) (c : UInt8) (t : List UInt8) (h1 : ¬ (i = 9 ∧ 1 < c.toNat)) (h2 : ¬ c.toNat < 128) : numL i (c :: t) = ((numL (i + 1) t).1, c.toNat % 128 + 128 * (numL (i + 1) t).2.1, (numL (i + 1) t).2.2 + 1) := by
  rw [numL, if_neg h1, if_neg h2]
section
variable {V i a : Nat} {l : List UInt8} {c : UInt8} {t : List UInt8}
theorem num_end (hN : numL 0 (l.drop a) = ((numL i (l.drop (a + i))).1, V + 128 ^ i * (numL i (l.drop (a + i))).2.1, i + (numL i (l.drop (a + i))).2.2)) (h : l.drop (a + i) = []) : (numL 0 (l.drop a)).1 = 10 := by
  rw [hN, h]; rfl
theorem num_bad9 (hN : numL 0 (l.drop a) = ((numL i (l.drop (a + i))).1, V + 128 ^ i * (numL i (l.drop (a + i))).2.1, i + (numL i (l.drop (a + i))).2.2)) (h : l.drop (a + i) = c :: t) (h1 : i = 9 ∧ 1 < c.toNat) : (numL 0 (l.drop a)).1 = 11 := by
  rw [hN, h, numL, if_pos h1]
theorem num_bad0 (hN : numL 0 (l.drop a) = ((numL i (l.drop (a + i))).1, V + 128 ^ i * (numL i (l.drop (a + i))).2.1, i + (numL i (l.drop (a + i))).2.2)) (h : l.drop (a + i) = c :: t) (h1 : ¬ (i = 9 ∧ 1 < c.toNat)) (h2 : c.toNat < 128) (h3 : c.toNat = 0 ∧ 0 < i) : (numL 0 (l.drop a)).1 = 11 := by
  rw [hN, h, numL, if_neg h1, if_pos h2, if_pos h3]
theorem num_good (hN : numL 0 (l.drop a) = ((numL i (l.drop (a + i))).1, V + 128 ^ i * (numL i (l.drop (a + i))).2.1, i + (numL i (l.drop (a + i))).2.2)) (h : l.drop (a + i) = c :: t) (h1 : ¬ (i = 9 ∧ 1 < c.toNat)) (h2 : c.toNat < 128) (h3 : ¬ (c.toNat = 0 ∧ 0 < i)) : numL 0 (l.drop a) = (0, V + 128 ^ i * (c.toNat % 128), i + 1) := by
  rw [hN, h, numL, if_neg h1, if_pos h2, if_neg h3, Nat.mod_eq_of_lt h2]
theorem num_next (hN : numL 0 (l.drop a) = ((numL i (l.drop (a + i))).1, V + 128 ^ i * (numL i (l.drop (a + i))).2.1, i + (numL i (l.drop (a + i))).2.2)) (h : l.drop (a + i) = c :: l.drop (a + i + 1)) (h1 : ¬ (i = 9 ∧ 1 < c.toNat)) (h2 : ¬ c.toNat < 128) :
    numL 0 (l.drop a) = ((numL (i + 1) (l.drop (a + (i + 1)))).1, V + 128 ^ i * (c.toNat % 128) + 128 ^ (i + 1) * (numL (i + 1) (l.drop (a + (i + 1)))).2.1, i + 1 + (numL (i + 1) (l.drop (a + (i + 1)))).2.2) := by
  rw [hN, h, numL_step i _ _ h1 h2]
  refine Prod.ext rfl (Prod.ext ?_ ?_)
  ·
   show V + 128 ^ i * (c.toNat % 128 + 128 * _) = V + 128 ^ i * (c.toNat % 128) + 128 ^ (i + 1) * _
   rw [Nat.mul_add, Nat.pow_succ, Nat.mul_assoc, ← Nat.add_assoc]; rfl
  ·
   show i + (_ + 1) = i + 1 + _
   rw [Nat.add_comm _ 1, ← Nat.add_assoc]; rfl
theorem num_below (hV : V < 128 ^ i) : V + 128 ^ i * (c.toNat % 128) < 128 ^ (i + 1) := by
  have h1 : 128 ^ i * (c.toNat % 128) ≤ 128 ^ i * 127 := Nat.mul_le_mul_left _ (by omega)
  rw [Nat.pow_succ]; omega
end
set_option maxRecDepth 100000 in
set_option maxHeartbeats 4000000 in
theorem number_walk (base b q : Nat) (v : Value) (l : List UInt8) (a : Nat) (e : Int) (x0 : Int) (w0 : World) (hR : RdAt base w0 b v l a e) (hq : Bk w0 q #[.int .u64 x0] 80) (hb : base ≤ w0.heap.size) : Does Tryz.prog 153 #[.pointer (some ⟨b, 0, none⟩), .pointer (some ⟨q, 0, none⟩)] w0 (fun r w' => ∃ (a' : Nat) (x : Int), r = .int .i64 (numL 0 (l.drop a)).1 ∧ RdAt base w' b v l a' e ∧ Bk w' q #[.int .u64 x] 80 ∧ Ch (fun j => j = b ∨ j = q) w0 w' ∧ ((numL 0 (l.drop a)).1 = 0 → a' = a + (numL 0 (l.drop a)).2.2 ∧ x = (numL 0 (l.drop a)).2.1)) := by
  have hbk := hR.bk
  have ha := hR.ha
  have hl := hR.hl
  have hnv := hR.nov
  have hbq : b ≠ q := Bk.ne hbk hq (by decide)
  have hqv := ow_nb hR.ow hq (by decide)
  have hlb := hbk.lt
  have hlq := hq.lt
  refine fn_of (n := 65) (args := [.pointer (some ⟨b, 0, none⟩), .pointer (some ⟨q, 0, none⟩)]) Tryz.func153 rfl rfl rfl (W_seq (W_region (L_r (r_ai rfl) (L_nil (W_seq (W_region (L_r (r_ai rfl) (L_nil ?_))))))))
  refine W_seq (W_seq (W_region (L_r (r_mi rfl) (L_nil (W_block ?_)))))
  refine W_loopF [0, 1] (fun mz_ f W => ∃ (i V : Nat), f 8 = .int .i64 i ∧ f 5 = .int .u64 V ∧ (i ≤ 9 ∧ a + i ≤ l.length ∧ V < 128 ^ i ∧ numL 0 (l.drop a) = ((numL i (l.drop (a + i))).1, V + 128 ^ i * (numL i (l.drop (a + i))).2.1, i + (numL i (l.drop (a + i))).2.2) ∧ Bk W b #[v, .int .i64 ((a + i : Nat) : Int), .int .i64 e] 106 ∧ Ow W base 5 1 v l.length (l.map b8) ∧ Bk W q #[.int .u64 x0] 80 ∧ Ch (fun j => j = b ∨ j = q) w0 W) ∧ mz_ = 10 - i) ?_ ?_
  ·
   refine ⟨_, 0, 0, rfl, rfl, ?_, rfl⟩
   exact ⟨by omega, by omega, by decide, by simp, Bk.au, hR.ow, Bk.au, Ch.au⟩
  rintro m0 g0 w1 ⟨i, V, hf8, hf5, hR0, rfl⟩
  refine W_as 8 hf8 rfl ?_
  refine W_as 5 hf5 rfl ?_
  clear hf8 hf5
  obtain ⟨hi, hai, hV, hN, hbi, hoi, hqi, hci⟩ := hR0
  have hz := hci.size
  have hsl := hoi.sl
  refine W_seq (W_region (L_r (r_lss rfl rfl) (L_nil (W_seq ?_))))
  refine W_if rfl (fun h9 => ?_) (fun h9 => ?_)
  ·
   refine W_skip (W_seq (W_block (W_seq (W_region (L_r (r_mi rfl) (L_r (r_ai rfl) (L_nil (W_seq ?_))))))))
   refine W_seq ?_
   refine W_still (by kernel_rfl) (by kernel_rfl) (fun w2 c2 hs2 => ?_)
   refine H_r (r_mp rfl) ?_
   refine H_r (r_nilCheck rfl) ?_
   refine H_r (r_fieldb Tryz.underlying106 rfl (show _ = some 1 from rfl) rfl rfl (show _ = 1 from rfl)) ?_
   refine H_r (r_lb rfl rfl) ?_
   refine H_r (r_mp rfl) ?_
   refine H_r (r_nilCheck rfl) ?_
   refine H_r (r_fieldb Tryz.underlying106 rfl (show _ = some 1 from rfl) rfl rfl (show _ = 0 from rfl)) ?_
   refine H_r (r_lb rfl rfl) ?_
   refine H_r (r_lenSl Tryz.underlying31 (by conv => lhs; whnf) Sl.au) ?_
   refine H_r (r_geq rfl rfl) ?_
   refine H_nil ?_
   refine W_if rfl (fun h20 => ?_) (fun h20 => ?_)
   ·
    have hend : l.drop (a + i) = [] := List.drop_eq_nil_of_le (by omega)
    refine W_seq (W_region (L_r (r_ai rfl) (L_nil (W_ret ?_))))
    refine ret1 (v := .int _ _) rfl rfl ?_
    first
    | (exfalso; omega)
    | exact ⟨a + i, x0, congrArg (Value.int .i64) (num_end hN hend).symm, ⟨Bk.au, hR.hb, Ow.au, by omega, hl⟩, Bk.au, Ch.au, fun h => absurd ((num_end hN hend).symm.trans h) (by decide)⟩
    | exact ⟨a + i + 1, x0, congrArg (Value.int .i64) (num_bad9 hN hdr (by omega)).symm, ⟨Bk.au, hR.hb, Ow.au, by omega, hl⟩, Bk.au, Ch.au, fun h => absurd ((num_bad9 hN hdr (by omega)).symm.trans h) (by decide)⟩
    | exact ⟨a + i + 1, x0, congrArg (Value.int .i64) (num_bad0 hN hdr (by omega) (by omega) (by omega)).symm, ⟨Bk.au, hR.hb, Ow.au, by omega, hl⟩, Bk.au, Ch.au, fun h => absurd ((num_bad0 hN hdr (by omega) (by omega) (by omega)).symm.trans h) (by decide)⟩
    | (have hgo := num_good hN hdr (by omega) (by omega) (by omega)
       refine ⟨a + i + 1, bits .or .u64 (V : Int) (IntKind.u64.wrap (IntKind.u64.wrap (bits .and .u8 (l[a + i].toNat : Int) 127) * 2 ^ min ((7 : Int) * i).toNat IntKind.u64.bits)), by rw [hgo], ⟨Bk.au, hR.hb, Ow.au, by omega, hl⟩, Bk.au, Ch.au, fun h => ?_⟩
       rw [hgo]
       exact ⟨rfl, or_step V i l[a + i].toNat hV hi (by omega) (fun e9 => by omega)⟩)
   ·
    have hin : a + i < l.length := by omega
    have hct := UInt8.toNat_lt l[a + i]
    have hdr : l.drop (a + i) = l[a + i] :: l.drop (a + i + 1) := List.drop_eq_getElem_cons hin
    refine W_skip (W_seq ?_)
    refine W_still (by kernel_rfl) (by kernel_rfl) (fun w3 c3 hs3 => ?_)
    refine H_r (r_mp rfl) ?_
    refine H_r (r_nilCheck rfl) ?_
    refine H_r (r_fieldb Tryz.underlying106 rfl (show _ = some 1 from rfl) rfl rfl (show _ = 0 from rfl)) ?_
    refine H_r (r_lb rfl rfl) ?_
    refine H_r (r_mp rfl) ?_
    refine H_r (r_nilCheck rfl) ?_
    refine H_r (r_fieldb Tryz.underlying106 rfl (show _ = some 1 from rfl) rfl rfl (show _ = 1 from rfl)) ?_
    refine H_r (r_lb rfl rfl) ?_
    refine H_r (r_ix Tryz.underlying31 (show _ = some 1 from rfl) (by conv => lhs; whnf) rfl Sl.au) ?_
    refine H_r (r_loadSl rfl rfl Sl.au (by first | assumption | exact b8_get _ _ (by omega) | (conv => lhs; simp only [List.getElem?_toArray, List.getElem?_cons_succ, List.getElem?_cons_zero]))) ?_
    refine H_r (r_ai rfl) ?_
    refine H_nil (W_seq (W_region (L_r (r_mp rfl) (L_r (r_nilCheck rfl) ?_))))
    refine L_r (r_fieldb Tryz.underlying106 rfl (show _ = some 1 from rfl) rfl rfl (show _ = 1 from rfl)) (L_r (r_lb rfl rfl) ?_)
    refine L_r (r_add rfl rfl (by first | exact wr_i64 (by omega) | rfl)) (L_r (r_nilCheck rfl) ?_)
    refine L_r (r_fieldb Tryz.underlying106 rfl (show _ = some 1 from rfl) rfl rfl (show _ = 1 from rfl)) ?_
    refine L_set (.plain rfl) rfl Bk.au (r_store (v := .int _ _) rfl rfl rfl rfl Bk.au (by first | decide | (simp; done) | omega)) (fun w4 hb4 hs4 c4 => ?_)
    try simp only [List.setIfInBounds_toArray, List.set_cons_zero, List.set_cons_succ] at hb4
    refine L_nil (W_seq (W_seq (W_region (L_r (r_mi rfl) (L_r (r_eql rfl rfl) (L_r (r_mb rfl) ?_))))))
    refine L_case (d := 40) rfl (fun h40 => ?_) (fun h40 => ?_)
    ·
     refine L_g (r_mi rfl) ?_
     refine L_g (r_gtr rfl rfl) (L_r (r_pt rfl rfl) (L_nil ?_))
     refine W_if rfl (fun h43 => ?_) (fun h43 => ?_)
     ·
      refine W_seq (W_region (L_r (r_ai rfl) (L_nil (W_ret ?_))))
      refine ret1 (v := .int _ _) rfl rfl ?_
      first
      | (exfalso; omega)
      | exact ⟨a + i, x0, congrArg (Value.int .i64) (num_end hN hend).symm, ⟨Bk.au, hR.hb, Ow.au, by omega, hl⟩, Bk.au, Ch.au, fun h => absurd ((num_end hN hend).symm.trans h) (by decide)⟩
      | exact ⟨a + i + 1, x0, congrArg (Value.int .i64) (num_bad9 hN hdr (by omega)).symm, ⟨Bk.au, hR.hb, Ow.au, by omega, hl⟩, Bk.au, Ch.au, fun h => absurd ((num_bad9 hN hdr (by omega)).symm.trans h) (by decide)⟩
      | exact ⟨a + i + 1, x0, congrArg (Value.int .i64) (num_bad0 hN hdr (by omega) (by omega) (by omega)).symm, ⟨Bk.au, hR.hb, Ow.au, by omega, hl⟩, Bk.au, Ch.au, fun h => absurd ((num_bad0 hN hdr (by omega) (by omega) (by omega)).symm.trans h) (by decide)⟩
      | (have hgo := num_good hN hdr (by omega) (by omega) (by omega)
         refine ⟨a + i + 1, bits .or .u64 (V : Int) (IntKind.u64.wrap (IntKind.u64.wrap (bits .and .u8 (l[a + i].toNat : Int) 127) * 2 ^ min ((7 : Int) * i).toNat IntKind.u64.bits)), by rw [hgo], ⟨Bk.au, hR.hb, Ow.au, by omega, hl⟩, Bk.au, Ch.au, fun h => ?_⟩
         rw [hgo]
         exact ⟨rfl, or_step V i l[a + i].toNat hV hi (by omega) (fun e9 => by omega)⟩)
     ·
      refine W_skip (W_seq (W_region (L_r (r_mi rfl) (L_r (r_mi rfl) (L_r (r_and rfl rfl) ?_)))))
      refine L_r (r_conv Tryz.underlying5 Tryz.underlying80 rfl (by first | exact wr_u64 (by omega) | rfl)) (L_r (r_mi rfl) ?_)
      refine L_r (r_mul rfl rfl (by first | exact wr_i64 (by omega) | rfl)) ?_
      refine L_r (r_conv Tryz.underlying3 Tryz.underlying166 rfl (by first | exact wr_u64 (by omega) | rfl)) ?_
      refine L_r (r_shl rfl rfl (by omega) rfl) (L_r (r_or rfl rfl) (L_r (r_ai rfl) (L_nil (W_seq (W_region (L_r (r_mi rfl) (L_r (r_lss rfl rfl) (L_nil ?_))))))))
      refine W_if rfl (fun h54 => ?_) (fun h54 => ?_)
      ·
       refine W_seq (W_seq (W_region (L_r (r_mi rfl) (L_r (r_eql rfl rfl) (L_r (r_mb rfl) ?_)))))
       refine L_case (d := 57) rfl (fun h57 => ?_) (fun h57 => ?_)
       ·
        refine L_g (r_mi rfl) ?_
        refine L_g (r_gtr rfl rfl) (L_r (r_pt rfl rfl) (L_nil ?_))
        refine W_if rfl (fun h60 => ?_) (fun h60 => ?_)
        ·
         refine W_seq (W_region (L_r (r_ai rfl) (L_nil (W_ret ?_))))
         refine ret1 (v := .int _ _) rfl rfl ?_
         first
         | (exfalso; omega)
         | exact ⟨a + i, x0, congrArg (Value.int .i64) (num_end hN hend).symm, ⟨Bk.au, hR.hb, Ow.au, by omega, hl⟩, Bk.au, Ch.au, fun h => absurd ((num_end hN hend).symm.trans h) (by decide)⟩
         | exact ⟨a + i + 1, x0, congrArg (Value.int .i64) (num_bad9 hN hdr (by omega)).symm, ⟨Bk.au, hR.hb, Ow.au, by omega, hl⟩, Bk.au, Ch.au, fun h => absurd ((num_bad9 hN hdr (by omega)).symm.trans h) (by decide)⟩
         | exact ⟨a + i + 1, x0, congrArg (Value.int .i64) (num_bad0 hN hdr (by omega) (by omega) (by omega)).symm, ⟨Bk.au, hR.hb, Ow.au, by omega, hl⟩, Bk.au, Ch.au, fun h => absurd ((num_bad0 hN hdr (by omega) (by omega) (by omega)).symm.trans h) (by decide)⟩
         | (have hgo := num_good hN hdr (by omega) (by omega) (by omega)
            refine ⟨a + i + 1, bits .or .u64 (V : Int) (IntKind.u64.wrap (IntKind.u64.wrap (bits .and .u8 (l[a + i].toNat : Int) 127) * 2 ^ min ((7 : Int) * i).toNat IntKind.u64.bits)), by rw [hgo], ⟨Bk.au, hR.hb, Ow.au, by omega, hl⟩, Bk.au, Ch.au, fun h => ?_⟩
            rw [hgo]
            exact ⟨rfl, or_step V i l[a + i].toNat hV hi (by omega) (fun e9 => by omega)⟩)
        ·
         refine W_skip (W_seq (W_region (L_r (r_mp rfl) (L_r (r_mi rfl) (L_r (r_nilCheck rfl) ?_)))))
         refine L_set (.plain rfl) rfl Bk.au (r_store (v := .int _ _) rfl rfl rfl rfl Bk.au (by first | decide | (simp; done) | omega)) (fun w5 hb5 hs5 c5 => ?_)
         try simp only [List.setIfInBounds_toArray, List.set_cons_zero, List.set_cons_succ] at hb5
         refine L_nil (W_seq (W_region (L_r (r_ai rfl) (L_nil (W_ret ?_)))))
         refine ret1 (v := .int _ _) rfl rfl ?_
         first
         | (exfalso; omega)
         | exact ⟨a + i, x0, congrArg (Value.int .i64) (num_end hN hend).symm, ⟨Bk.au, hR.hb, Ow.au, by omega, hl⟩, Bk.au, Ch.au, fun h => absurd ((num_end hN hend).symm.trans h) (by decide)⟩
         | exact ⟨a + i + 1, x0, congrArg (Value.int .i64) (num_bad9 hN hdr (by omega)).symm, ⟨Bk.au, hR.hb, Ow.au, by omega, hl⟩, Bk.au, Ch.au, fun h => absurd ((num_bad9 hN hdr (by omega)).symm.trans h) (by decide)⟩
         | exact ⟨a + i + 1, x0, congrArg (Value.int .i64) (num_bad0 hN hdr (by omega) (by omega) (by omega)).symm, ⟨Bk.au, hR.hb, Ow.au, by omega, hl⟩, Bk.au, Ch.au, fun h => absurd ((num_bad0 hN hdr (by omega) (by omega) (by omega)).symm.trans h) (by decide)⟩
         | (have hgo := num_good hN hdr (by omega) (by omega) (by omega)
            refine ⟨a + i + 1, bits .or .u64 (V : Int) (IntKind.u64.wrap (IntKind.u64.wrap (bits .and .u8 (l[a + i].toNat : Int) 127) * 2 ^ min ((7 : Int) * i).toNat IntKind.u64.bits)), by rw [hgo], ⟨Bk.au, hR.hb, Ow.au, by omega, hl⟩, Bk.au, Ch.au, fun h => ?_⟩
            rw [hgo]
            exact ⟨rfl, or_step V i l[a + i].toNat hV hi (by omega) (fun e9 => by omega)⟩)
       ·
        refine L_ps (L_ps (L_r (r_pf rfl rfl) (L_nil ?_)))
        refine W_false rfl (W_skip (W_seq (W_region (L_r (r_mp rfl) (L_r (r_mi rfl) (L_r (r_nilCheck rfl) ?_))))))
        refine L_set (.plain rfl) rfl Bk.au (r_store (v := .int _ _) rfl rfl rfl rfl Bk.au (by first | decide | (simp; done) | omega)) (fun w6 hb6 hs6 c6 => ?_)
        try simp only [List.setIfInBounds_toArray, List.set_cons_zero, List.set_cons_succ] at hb6
        refine L_nil (W_seq (W_region (L_r (r_ai rfl) (L_nil (W_ret ?_)))))
        refine ret1 (v := .int _ _) rfl rfl ?_
        first
        | (exfalso; omega)
        | exact ⟨a + i, x0, congrArg (Value.int .i64) (num_end hN hend).symm, ⟨Bk.au, hR.hb, Ow.au, by omega, hl⟩, Bk.au, Ch.au, fun h => absurd ((num_end hN hend).symm.trans h) (by decide)⟩
        | exact ⟨a + i + 1, x0, congrArg (Value.int .i64) (num_bad9 hN hdr (by omega)).symm, ⟨Bk.au, hR.hb, Ow.au, by omega, hl⟩, Bk.au, Ch.au, fun h => absurd ((num_bad9 hN hdr (by omega)).symm.trans h) (by decide)⟩
        | exact ⟨a + i + 1, x0, congrArg (Value.int .i64) (num_bad0 hN hdr (by omega) (by omega) (by omega)).symm, ⟨Bk.au, hR.hb, Ow.au, by omega, hl⟩, Bk.au, Ch.au, fun h => absurd ((num_bad0 hN hdr (by omega) (by omega) (by omega)).symm.trans h) (by decide)⟩
        | (have hgo := num_good hN hdr (by omega) (by omega) (by omega)
           refine ⟨a + i + 1, bits .or .u64 (V : Int) (IntKind.u64.wrap (IntKind.u64.wrap (bits .and .u8 (l[a + i].toNat : Int) 127) * 2 ^ min ((7 : Int) * i).toNat IntKind.u64.bits)), by rw [hgo], ⟨Bk.au, hR.hb, Ow.au, by omega, hl⟩, Bk.au, Ch.au, fun h => ?_⟩
           rw [hgo]
           exact ⟨rfl, or_step V i l[a + i].toNat hV hi (by omega) (fun e9 => by omega)⟩)
      ·
       refine W_skip (W_region ?_)
       refine L_r (r_add rfl rfl (by first | exact wr_i64 (by omega) | rfl)) (L_r (r_mi rfl) (L_nil ?_))
       refine ⟨⟨fx2, fx2, trivial⟩, _, ?_, i + 1, V + 128 ^ i * (l[a + i].toNat % 128), rfl, (by exact congrArg (Value.int _) (or_step V i l[a + i].toNat hV hi (UInt8.toNat_lt _) (fun e9 => by omega))), ?_, rfl⟩
       · omega
       have h9a : ¬ (i = 9 ∧ 1 < l[a + i].toNat) := by omega
       exact ⟨by omega, by omega, num_below hV, num_next hN hdr h9a (by omega), Bk.au, Ow.au, Bk.au, Ch.au⟩
    ·
     refine L_ps (L_ps (L_r (r_pf rfl rfl) (L_nil ?_)))
     refine W_false rfl (W_skip (W_seq (W_region (L_r (r_mi rfl) (L_r (r_mi rfl) (L_r (r_and rfl rfl) ?_))))))
     refine L_r (r_conv Tryz.underlying5 Tryz.underlying80 rfl (by first | exact wr_u64 (by omega) | rfl)) (L_r (r_mi rfl) ?_)
     refine L_r (r_mul rfl rfl (by first | exact wr_i64 (by omega) | rfl)) ?_
     refine L_r (r_conv Tryz.underlying3 Tryz.underlying166 rfl (by first | exact wr_u64 (by omega) | rfl)) ?_
     refine L_r (r_shl rfl rfl (by omega) rfl) (L_r (r_or rfl rfl) (L_r (r_ai rfl) (L_nil (W_seq (W_region (L_r (r_mi rfl) (L_r (r_lss rfl rfl) (L_nil ?_))))))))
     refine W_if rfl (fun h54 => ?_) (fun h54 => ?_)
     ·
      refine W_seq (W_seq (W_region (L_r (r_mi rfl) (L_r (r_eql rfl rfl) (L_r (r_mb rfl) ?_)))))
      refine L_case (d := 57) rfl (fun h57 => ?_) (fun h57 => ?_)
      ·
       refine L_g (r_mi rfl) ?_
       refine L_g (r_gtr rfl rfl) (L_r (r_pt rfl rfl) (L_nil ?_))
       refine W_if rfl (fun h60 => ?_) (fun h60 => ?_)
       ·
        refine W_seq (W_region (L_r (r_ai rfl) (L_nil (W_ret ?_))))
        refine ret1 (v := .int _ _) rfl rfl ?_
        first
        | (exfalso; omega)
        | exact ⟨a + i, x0, congrArg (Value.int .i64) (num_end hN hend).symm, ⟨Bk.au, hR.hb, Ow.au, by omega, hl⟩, Bk.au, Ch.au, fun h => absurd ((num_end hN hend).symm.trans h) (by decide)⟩
        | exact ⟨a + i + 1, x0, congrArg (Value.int .i64) (num_bad9 hN hdr (by omega)).symm, ⟨Bk.au, hR.hb, Ow.au, by omega, hl⟩, Bk.au, Ch.au, fun h => absurd ((num_bad9 hN hdr (by omega)).symm.trans h) (by decide)⟩
        | exact ⟨a + i + 1, x0, congrArg (Value.int .i64) (num_bad0 hN hdr (by omega) (by omega) (by omega)).symm, ⟨Bk.au, hR.hb, Ow.au, by omega, hl⟩, Bk.au, Ch.au, fun h => absurd ((num_bad0 hN hdr (by omega) (by omega) (by omega)).symm.trans h) (by decide)⟩
        | (have hgo := num_good hN hdr (by omega) (by omega) (by omega)
           refine ⟨a + i + 1, bits .or .u64 (V : Int) (IntKind.u64.wrap (IntKind.u64.wrap (bits .and .u8 (l[a + i].toNat : Int) 127) * 2 ^ min ((7 : Int) * i).toNat IntKind.u64.bits)), by rw [hgo], ⟨Bk.au, hR.hb, Ow.au, by omega, hl⟩, Bk.au, Ch.au, fun h => ?_⟩
           rw [hgo]
           exact ⟨rfl, or_step V i l[a + i].toNat hV hi (by omega) (fun e9 => by omega)⟩)
       ·
        refine W_skip (W_seq (W_region (L_r (r_mp rfl) (L_r (r_mi rfl) (L_r (r_nilCheck rfl) ?_)))))
        refine L_set (.plain rfl) rfl Bk.au (r_store (v := .int _ _) rfl rfl rfl rfl Bk.au (by first | decide | (simp; done) | omega)) (fun w7 hb7 hs7 c7 => ?_)
        try simp only [List.setIfInBounds_toArray, List.set_cons_zero, List.set_cons_succ] at hb7
        refine L_nil (W_seq (W_region (L_r (r_ai rfl) (L_nil (W_ret ?_)))))
        refine ret1 (v := .int _ _) rfl rfl ?_
        first
        | (exfalso; omega)
        | exact ⟨a + i, x0, congrArg (Value.int .i64) (num_end hN hend).symm, ⟨Bk.au, hR.hb, Ow.au, by omega, hl⟩, Bk.au, Ch.au, fun h => absurd ((num_end hN hend).symm.trans h) (by decide)⟩
        | exact ⟨a + i + 1, x0, congrArg (Value.int .i64) (num_bad9 hN hdr (by omega)).symm, ⟨Bk.au, hR.hb, Ow.au, by omega, hl⟩, Bk.au, Ch.au, fun h => absurd ((num_bad9 hN hdr (by omega)).symm.trans h) (by decide)⟩
        | exact ⟨a + i + 1, x0, congrArg (Value.int .i64) (num_bad0 hN hdr (by omega) (by omega) (by omega)).symm, ⟨Bk.au, hR.hb, Ow.au, by omega, hl⟩, Bk.au, Ch.au, fun h => absurd ((num_bad0 hN hdr (by omega) (by omega) (by omega)).symm.trans h) (by decide)⟩
        | (have hgo := num_good hN hdr (by omega) (by omega) (by omega)
           refine ⟨a + i + 1, bits .or .u64 (V : Int) (IntKind.u64.wrap (IntKind.u64.wrap (bits .and .u8 (l[a + i].toNat : Int) 127) * 2 ^ min ((7 : Int) * i).toNat IntKind.u64.bits)), by rw [hgo], ⟨Bk.au, hR.hb, Ow.au, by omega, hl⟩, Bk.au, Ch.au, fun h => ?_⟩
           rw [hgo]
           exact ⟨rfl, or_step V i l[a + i].toNat hV hi (by omega) (fun e9 => by omega)⟩)
      ·
       refine L_ps (L_ps (L_r (r_pf rfl rfl) (L_nil ?_)))
       refine W_false rfl (W_skip (W_seq (W_region (L_r (r_mp rfl) (L_r (r_mi rfl) (L_r (r_nilCheck rfl) ?_))))))
       refine L_set (.plain rfl) rfl Bk.au (r_store (v := .int _ _) rfl rfl rfl rfl Bk.au (by first | decide | (simp; done) | omega)) (fun w8 hb8 hs8 c8 => ?_)
       try simp only [List.setIfInBounds_toArray, List.set_cons_zero, List.set_cons_succ] at hb8
       refine L_nil (W_seq (W_region (L_r (r_ai rfl) (L_nil (W_ret ?_)))))
       refine ret1 (v := .int _ _) rfl rfl ?_
       first
       | (exfalso; omega)
       | exact ⟨a + i, x0, congrArg (Value.int .i64) (num_end hN hend).symm, ⟨Bk.au, hR.hb, Ow.au, by omega, hl⟩, Bk.au, Ch.au, fun h => absurd ((num_end hN hend).symm.trans h) (by decide)⟩
       | exact ⟨a + i + 1, x0, congrArg (Value.int .i64) (num_bad9 hN hdr (by omega)).symm, ⟨Bk.au, hR.hb, Ow.au, by omega, hl⟩, Bk.au, Ch.au, fun h => absurd ((num_bad9 hN hdr (by omega)).symm.trans h) (by decide)⟩
       | exact ⟨a + i + 1, x0, congrArg (Value.int .i64) (num_bad0 hN hdr (by omega) (by omega) (by omega)).symm, ⟨Bk.au, hR.hb, Ow.au, by omega, hl⟩, Bk.au, Ch.au, fun h => absurd ((num_bad0 hN hdr (by omega) (by omega) (by omega)).symm.trans h) (by decide)⟩
       | (have hgo := num_good hN hdr (by omega) (by omega) (by omega)
          refine ⟨a + i + 1, bits .or .u64 (V : Int) (IntKind.u64.wrap (IntKind.u64.wrap (bits .and .u8 (l[a + i].toNat : Int) 127) * 2 ^ min ((7 : Int) * i).toNat IntKind.u64.bits)), by rw [hgo], ⟨Bk.au, hR.hb, Ow.au, by omega, hl⟩, Bk.au, Ch.au, fun h => ?_⟩
          rw [hgo]
          exact ⟨rfl, or_step V i l[a + i].toNat hV hi (by omega) (fun e9 => by omega)⟩)
     ·
      refine W_skip (W_region ?_)
      refine L_r (r_add rfl rfl (by first | exact wr_i64 (by omega) | rfl)) (L_r (r_mi rfl) (L_nil ?_))
      refine ⟨⟨fx2, fx2, trivial⟩, _, ?_, i + 1, V + 128 ^ i * (l[a + i].toNat % 128), rfl, (by exact congrArg (Value.int _) (or_step V i l[a + i].toNat hV hi (UInt8.toNat_lt _) (fun e9 => by omega))), ?_, rfl⟩
      · omega
      have h9a : ¬ (i = 9 ∧ 1 < l[a + i].toNat) := by omega
      exact ⟨by omega, by omega, num_below hV, num_next hN hdr h9a (by omega), Bk.au, Ow.au, Bk.au, Ch.au⟩
  · omega
end Go.Proofs.YthpknpfhpkkheaaGreatDoor

namespace Go.Proofs
open Go Go.RowKit Go.Shelf Go.Lib
namespace YthpknpfhpkkheaaGreatDoor
set_option linter.unusedVariables false
set_option maxRecDepth 100000
/-- The two tables are as they are laid, and lie below. -/
structure Tabs (base : Nat) (w : World) : Prop where
  tab : Lib.Utf8Tabs (Tryz.laysValid_ren.g 3) (Tryz.laysValid_ren.g 4) w
  lt3 : Tryz.laysValid_ren.g 3 < base
  lt4 : Tryz.laysValid_ren.g 4 < base
theorem cell_blk {w w' : World} {g i : Nat} (h : w'.heap[g]? = w.heap[g]?) : w'.cell? ⟨g, i, none⟩ = w.cell? ⟨g, i, none⟩ := by
  simp only [World.cell?, h]
theorem Tabs.ch {base : Nat} {w w' : World} {T : Nat → Prop} (h : Tabs base w) (c : Ch T w w') (hb : base ≤ w.heap.size) (hT : ∀ i, T i → base ≤ i) : Tabs base w' := by
  have h3 := c.blk (Tryz.laysValid_ren.g 3) (by have := h.lt3; omega) (fun x => by have := hT _ x; have := h.lt3; omega)
  have h4 := c.blk (Tryz.laysValid_ren.g 4) (by have := h.lt4; omega) (fun x => by have := hT _ x; have := h.lt4; omega)
  exact ⟨⟨fun k hk => (cell_blk h3).trans (h.tab.1 k hk), fun i hi => ⟨(cell_blk h4).trans (h.tab.2 i hi).1, (cell_blk h4).trans (h.tab.2 i hi).2⟩⟩, h.lt3, h.lt4⟩
theorem Tabs.nw {base : Nat} {w w' : World} (h : Tabs base w) (c : Nw w w') (hb : base ≤ w.heap.size) : Tabs base w' := h.ch c hb fun _ x => x.elim
theorem valid_walk (base : Nat) (s : ByteArray) (w : World) (hT : Tabs base w) (hs : s.size ≤ 9223372036854775807) :
    Does Tryz.prog 170 #[.string s] w fun r w' => r = .bool (Lib.validD s.data.toList) ∧ Nw w w' :=
  Calls.mono (Any.utf8_ValidString Tryz.laysValid s w hs hT.tab) fun _ _ ⟨e, b⟩ => ⟨_, e, rfl, Ch.of_below b⟩
end YthpknpfhpkkheaaGreatDoor
end Go.Proofs

namespace Go.Proofs.YthpknpfhpkkheaaGreatDoor
open Go Go.RowKit
set_option linter.unusedVariables false
set_option linter.unusedSimpArgs false
set_option maxRecDepth 100000
/-- All operators. -/
def opT : List (ByteArray × Bool × Bool) := [({ data := #[105, 110, 116] }, true, false), ({ data := #[116, 114, 117, 101] }, false, false), ({ data := #[102, 97, 108, 115, 101] }, false, false), ({ data := #[119, 111, 114, 100] }, false, true), ({ data := #[110, 117, 108, 108] }, false, false), ({ data := #[108, 111, 97, 100] }, true, false), ({ data := #[115, 116, 111, 114, 101] }, true, false), ({ data := #[112, 111, 112] }, false, false), ({ data := #[100, 117, 112] }, false, false), ({ data := #[115, 119, 97, 112] }, false, false), ({ data := #[97, 100, 100] }, false, false), ({ data := #[115, 117, 98] }, false, false), ({ data := #[109, 117, 108] }, false, false), ({ data := #[100, 105, 118] }, false, false), ({ data := #[114, 101, 109] }, false, false), ({ data := #[110, 101, 103] }, false, false), ({ data := #[108, 101, 115, 115] }, false, false), ({ data := #[115, 97, 109, 101] }, false, false), ({ data := #[110, 111, 116] }, false, false), ({ data := #[98, 111, 116, 104] }, false, false), ({ data := #[106, 111, 105, 110] }, false, false), ({ data := #[115, 105, 122, 101] }, false, false), ({ data := #[106, 117, 109, 112] }, true, false), ({ data := #[98, 114, 97, 110, 99, 104] }, true, false), ({ data := #[110, 101, 119] }, false, true), ({ data := #[103, 101, 116] }, false, true), ({ data := #[112, 117, 116] }, false, true), ({ data := #[99, 97, 108, 108] }, false, true), ({ data := #[97, 114, 114, 97, 121] }, false, true), ({ data := #[97, 116] }, false, false), ({ data := #[115, 101, 116] }, false, false), ({ data := #[105, 115] }, false, true), ({ data := #[99, 97, 115, 116] }, false, true), ({ data := #[114, 101, 116, 117, 114, 110] }, false, false), ({ data := #[116, 104, 114, 111, 119] }, false, false), ({ data := #[111, 117, 116] }, false, false), ({ data := #[101, 113, 117, 97, 108] }, false, false), ({ data := #[97, 110, 100] }, false, false), ({ data := #[111, 114] }, false, false), ({ data := #[120, 111, 114] }, false, false), ({ data := #[115, 104, 108] }, false, false), ({ data := #[115, 104, 114] }, false, false)]
theorem opT_len : opT.length = 42 := rfl
abbrev opr (o : ByteArray × Bool × Bool) : List Value := [.string o.1, .bool o.2.1, .bool o.2.2]
def opL : List Value := opT.flatMap opr
theorem opL_len : opL.length = 126 := by kernel_rfl
theorem flat_opr (j : Nat) (u : Value) : ∀ (L : List (ByteArray × Bool × Bool)) (i : Nat) (h : i < L.length), (opr L[i])[j]? = some u → (L.flatMap opr)[i * 3 + j]? = some u := by
  intro L
  induction L with
  | nil => intro i h; simp at h
  | cons x L ih =>
    intro i h hu
    have hj : j < 3 := by have := (List.getElem?_eq_some_iff.1 hu).1; simpa using this
    cases i with
    | zero => rw [List.flatMap_cons, List.getElem?_append_left (by simp; omega)]; simpa using hu
    | succ i =>
      have := ih i (by simpa using h) (by simpa using hu)
      rw [List.flatMap_cons, List.getElem?_append_right (by simp; omega)]
      rw [show (i + 1) * 3 + j - (opr x).length = i * 3 + j by simp; omega]
      exact this
theorem opL_row (i : Nat) (h : i < opT.length) (j : Nat) (u : Value) (hu : (opr opT[i])[j]? = some u) : opL[i * 3 + j]? = some u := flat_opr j u opT i h hu
/-- The package-level variables are as they are laid, and lie below. -/
structure Gv (base : Nat) (w : World) : Prop where
  tab : Tabs base w
  ops : ∀ (i : Nat) (u : Value), opL[i]? = some u → w.cell? ⟨0, i, none⟩ = some u
  bops : ∃ cs t fr, w.heap[0]? = some (.cells cs t fr)
  lops : 0 < base
theorem Gv.ch {base : Nat} {w w' : World} {T : Nat → Prop} (h : Gv base w) (c : Ch T w w') (hb : base ≤ w.heap.size) (hT : ∀ i, T i → base ≤ i) : Gv base w' := by
  have h2 := c.blk 0 (by have := h.lops; omega) (fun x => by have := hT _ x; have := h.lops; omega)
  obtain ⟨cs, t, fr, hbo⟩ := h.bops
  exact ⟨h.tab.ch c hb hT, fun i u hu => (cell_blk h2).trans (h.ops i u hu), ⟨cs, t, fr, h2.trans hbo⟩, h.lops⟩
theorem Gv.nw {base : Nat} {w w' : World} (h : Gv base w) (c : Nw w w') (hb : base ≤ w.heap.size) : Gv base w' := h.ch c hb fun _ x => x.elim
/-- The table, as a slice of it. -/
theorem Gv.sl {base : Nat} {w : World} (h : Gv base w) : Sl w (.slice (some ⟨0, 0, none⟩) 42 42) 3 42 opL := by
  obtain ⟨cs, t, fr, hb⟩ := h.bops
  refine ⟨opL_len, .inr ⟨_, 0, 42, cs, t, rfl, Nat.le_refl _, ⟨fr, hb⟩, fun i x hx => ?_⟩⟩
  have h1 := h.ops i x hx
  rw [cell_of_row w _ i cs t fr hb] at h1
  rw [Nat.zero_add]; exact h1
/-- An operator's number; below 0: there is none. -/
def idxF (s : ByteArray) : List (ByteArray × Bool × Bool) → Nat → Option Nat
  | [], _ => none
  | o :: L, n => if o.1 = s then some n else idxF s L (n + 1)
def opIx (s : ByteArray) : Option Nat := idxF s opT 0
def zOf : Option Nat → Int
  | some n => n
  | none => -1
def opZ (s : ByteArray) : Int := zOf (opIx s)
theorem idxF_at {s : ByteArray} : ∀ (L : List (ByteArray × Bool × Bool)) (n i : Nat) (h : i < L.length), L[i].1 = s → (∀ j (hj : j < L.length), j < i → L[j].1 ≠ s) → idxF s L n = some (n + i)
  | o :: L, n, 0, _, h1, _ => by unfold idxF; exact if_pos h1
  | o :: L, n, i + 1, h, h1, h2 => by
    unfold idxF
    have h0 : o.1 ≠ s := h2 0 (by simp) (by omega)
    rw [if_neg h0, idxF_at L (n + 1) i (by simpa using h) h1 (fun j hj hji => h2 (j + 1) (by simpa using hj) (by omega))]
    congr 1; omega
theorem idxF_no {s : ByteArray} : ∀ (L : List (ByteArray × Bool × Bool)) (n : Nat), (∀ j (hj : j < L.length), L[j].1 ≠ s) → idxF s L n = none
  | [], _, _ => rfl
  | o :: L, n, h => by
    unfold idxF
    have h0 : o.1 ≠ s := h 0 (by simp)
    rw [if_neg h0]
    exact idxF_no L (n + 1) fun j hj => h (j + 1) (by simpa using hj)
theorem idxF_some {s : ByteArray} : ∀ (L : List (ByteArray × Bool × Bool)) (n k : Nat), idxF s L n = some k → ∃ i, ∃ h : i < L.length, k = n + i ∧ L[i].1 = s
  | [], n, k, h => by cases h
  | o :: L, n, k, h => by
    unfold idxF at h
    split at h
    ·
     rename_i e
     injection h with h
     exact ⟨0, by simp, by omega, e⟩
    ·
     obtain ⟨i, hi, h1, h2⟩ := idxF_some L (n + 1) k h
     exact ⟨i + 1, by simpa using hi, by omega, h2⟩
theorem opIx_some {s : ByteArray} {k : Nat} (h : opIx s = some k) : ∃ hk : k < opT.length, opT[k].1 = s := by
  obtain ⟨i, hi, h1, h2⟩ := idxF_some _ _ _ h
  have e : k = i := by omega
  subst e
  exact ⟨hi, h2⟩
theorem findc_walk (o : ByteArray × Bool × Bool) (s : ByteArray) (q : Nat) (w0 : World) (hq : Bk w0 q #[.string s] 9) : Does Tryz.prog 185 #[.agg #[.string o.1, .bool o.2.1, .bool o.2.2], .pointer (some ⟨q, 0, none⟩)] w0 (fun r w' => r = .bool (decide (o.1 = s)) ∧ Nw w0 w') := by
  refine fn_of (n := 8) (args := [.agg #[.string o.1, .bool o.2.1, .bool o.2.2], .pointer (some ⟨q, 0, none⟩)]) Tryz.func185 rfl rfl rfl (W_seq (W_region ?_))
  refine L_new (.plain rfl) rfl rfl (r_boxa rfl) (fun w1 b2 hb2 eb1 hs1 c1 => (L_r (r_ab rfl) (L_nil (W_seq (W_region ?_)))))
  refine L_r (r_fieldb Tryz.underlying158 rfl (show _ = some 1 from rfl) rfl rfl (show _ = 0 from rfl)) (L_r (r_lb rfl rfl) (L_r (r_lb rfl rfl) (L_r (r_eqls rfl rfl) (L_r (r_ab rfl) (L_nil (W_ret ?_))))))
  refine ret1 (v := .bool _) rfl rfl ?_
  exact ⟨rfl, Ch.au⟩
theorem ixfunc_walk (T : List (ByteArray × Bool × Bool)) (v : Value) (s : ByteArray) (q : Nat) (w0 : World) (hv : Sl w0 v 3 T.length (T.flatMap opr)) (hl : T.length ≤ 1000) (hq : Bk w0 q #[.string s] 9) : Does Tryz.prog 184 #[v, .func (.func 185) #[] #[.pointer (some ⟨q, 0, none⟩)]] w0 (fun r w' => r = .int .i64 (zOf (idxF s T 0)) ∧ Nw w0 w') := by
  refine fn_of (n := 19) (args := [v, .func (.func 185) #[] #[.pointer (some ⟨q, 0, none⟩)]]) Tryz.func184 rfl rfl rfl (W_seq (W_region (L_r (r_ai rfl) (L_nil (W_seq (W_seq (W_region (L_r (r_mv) ?_))))))))
  refine L_r (r_lenSl Tryz.underlying184 (by conv => lhs; whnf) Sl.au) (L_r (r_mi rfl) (L_nil (W_block ?_)))
  refine W_loopF [0, 1, 7] (fun mz_ f W => ∃ (i : Nat), f 8 = .int .i64 i ∧ (i ≤ T.length ∧ (∀ j (hj : j < T.length), j < i → T[j].1 ≠ s) ∧ Nw w0 W) ∧ mz_ = T.length - i) ?_ ?_
  ·
   refine ⟨_, 0, rfl, ?_, rfl⟩
   exact ⟨by omega, fun j hj hji => absurd hji (by omega), Ch.au⟩
  rintro m0 g0 w1 ⟨i, hf8, hR0, rfl⟩
  refine W_as 8 hf8 rfl ?_
  clear hf8
  obtain ⟨hi, hn, hnw⟩ := hR0
  have hz := hnw.size
  refine W_seq (W_region (L_r (r_lss rfl rfl) (L_nil (W_seq ?_))))
  refine W_if rfl (fun h9 => ?_) (fun h9 => ?_)
  ·
   have hil : i < T.length := by omega
   have hrow := fun j u => flat_opr j u T i hil
   obtain ⟨o, ho⟩ : ∃ o, o = T[i] := ⟨_, rfl⟩
   rw [← ho] at hrow
   refine W_skip (W_seq (W_block (W_seq (W_region (L_r (r_mi rfl) (L_r (r_ai rfl) (L_nil (W_seq ?_))))))))
   refine W_region (L_r (r_mv) (L_r (r_mv) (L_r (r_mi rfl) ?_)))
   refine L_r (r_ix Tryz.underlying184 (show _ = some 3 from rfl) (by conv => lhs; whnf) rfl Sl.au) ?_
   refine L_r (r_loadSlrow (us := [.string o.1, .bool o.2.1, .bool o.2.2]) Tryz.underlying158 rfl rfl rfl rfl Sl.au (by exact hrow)) ?_
   refine L_call (.plain rfl) rfl rfl (r_call Tryz.func185 rfl rfl rfl (by rfl)) (findc_walk o s q _ Bk.au) ?_
   rintro v16 w2 ⟨rfl, c2⟩
   have hz2 := c2.size
   refine L_nil ?_
   refine W_bool rfl (fun h16 => ?_) (fun h16 => ?_)
   ·
    refine W_seq (W_region (L_r (r_mi rfl) (L_r (r_ai rfl) (L_nil (W_ret ?_)))))
    refine ret1 (v := .int _ _) rfl rfl ?_
    refine ⟨?_, Ch.au⟩
    first
    | (have := idxF_at (s := s) T 0 i hil (by rw [← ho]; simpa using h16) hn
       rw [this, Nat.zero_add]; rfl)
    | (rw [idxF_no T 0 fun j hj => hn j hj (by omega)]; rfl)
   ·
    refine W_skip (W_region ?_)
    refine L_r (r_add rfl rfl (by first | exact wr_i64 (by omega) | rfl)) (L_r (r_mi rfl) (L_nil ?_))
    refine ⟨⟨fx2, fx2, fx2, trivial⟩, _, ?_, i + 1, rfl, ?_, rfl⟩
    · omega
    refine ⟨by omega, fun j hj hji => ?_, Ch.au⟩
    rcases Nat.lt_or_ge j i with h | h
    · exact hn j hj h
    ·
     have e : j = i := by omega
     subst e
     rw [← ho]; simpa using h16
  ·
   refine W_exit ?_
   repeat (first | refine blk_hit ?_ | refine blk_miss rfl ?_)
   refine W_seq (W_region (L_r (r_ai rfl) (L_nil (W_ret ?_))))
   refine ret1 (v := .int _ _) rfl rfl ?_
   refine ⟨?_, Ch.au⟩
   first
   | (have := idxF_at (s := s) T 0 i hil (by rw [← ho]; simpa using h16) hn
      rw [this, Nat.zero_add]; rfl)
   | (rw [idxF_no T 0 fun j hj => hn j hj (by omega)]; rfl)
theorem Gv.sl' {base : Nat} {w : World} (h : Gv base w) : Sl w (.slice (some ⟨0, 0, none⟩) 42 42) 3 opT.length (opT.flatMap opr) := h.sl
theorem find_walk (base : Nat) (s : ByteArray) (w0 : World) (hG : Gv base w0) (hb : base ≤ w0.heap.size) : Does Tryz.prog 168 #[.string s] w0 (fun r w' => r = .int .i64 (opZ s) ∧ Nw w0 w') := by
  refine fn_of (n := 6) (args := [.string s]) Tryz.func168 rfl rfl rfl (W_seq (W_region ?_))
  refine L_new (.plain rfl) rfl rfl (r_box1 (v := .string _) rfl rfl) (fun w1 b1 hb1 eb1 hs1 c1 => (L_r (r_ai rfl) (L_nil (W_seq (W_region ?_)))))
  refine L_r (r_sliceG Tryz.underlying159 (show _ = some 3 from rfl) rfl) ?_
  refine L_r (r_funcL (l1 := []) (l2 := [.pointer _]) rfl rfl) ?_
  refine L_call (.plain rfl) rfl rfl (r_call Tryz.func184 rfl rfl rfl (by rfl)) (ixfunc_walk opT _ s b1 _ (hG.nw Ch.au hb).sl' (by rw [opT_len]; decide) Bk.au) ?_
  rintro v5 w2 ⟨rfl, c2⟩
  have hz2 := c2.size
  refine L_r (r_ai rfl) (L_nil (W_ret ?_))
  refine ret1 (v := .int _ _) rfl rfl ?_
  exact ⟨rfl, Ch.au⟩
end Go.Proofs.YthpknpfhpkkheaaGreatDoor

namespace Go.Proofs.YthpknpfhpkkheaaGreatDoor
open Go Go.RowKit
set_option linter.unusedVariables false
set_option linter.unusedSimpArgs false
set_option maxRecDepth 100000
/-- What an operator has: a number, a text; and whether there is one. -/
def takesF (s : ByteArray) : Bool × Bool × Bool := match opIx s with
  | some k => ((opT.getD k default).2.1, (opT.getD k default).2.2, true)
  | none => (false, false, false)
theorem opIx_lt {s : ByteArray} {k : Nat} (h : opIx s = some k) : k < 42 := by
  obtain ⟨h1, _⟩ := opIx_some h
  rw [opT_len] at h1; exact h1
theorem gv_row {base : Nat} {w : World} (h : Gv base w) {k : Nat} (hk : k < 42) : ∀ (j : Nat) (u : Value), (opr (opT.getD k default))[j]? = some u → w.cell? ⟨0, k * 3 + j, none⟩ = some u := fun j u hu => by
  have hk' : k < opT.length := by rw [opT_len]; exact hk
  refine h.ops _ _ (opL_row k hk' j u ?_)
  rw [List.getD_eq_getElem?_getD, List.getElem?_eq_getElem hk'] at hu
  exact hu
theorem find_yes (base : Nat) (s : ByteArray) (k : Nat) (w0 : World) (h : opIx s = some k) (hG : Gv base w0) (hb : base ≤ w0.heap.size) : Does Tryz.prog 168 #[.string s] w0 (fun r w' => r = .int .i64 (k : Int) ∧ Nw w0 w') := by
  have := find_walk base s w0 hG hb
  unfold opZ at this
  rw [h] at this
  exact this
theorem find_no (base : Nat) (s : ByteArray) (w0 : World) (h : opIx s = none) (hG : Gv base w0) (hb : base ≤ w0.heap.size) : Does Tryz.prog 168 #[.string s] w0 (fun r w' => r = .int .i64 (-1) ∧ Nw w0 w') := by
  have := find_walk base s w0 hG hb
  unfold opZ at this
  rw [h] at this
  exact this
theorem takes_no (base : Nat) (s : ByteArray) (w0 : World) (hno : opIx s = none) (hG : Gv base w0) (hb : base ≤ w0.heap.size) : Does Tryz.prog 138 #[.string s] w0 (fun r w' => r = .tuple #[.bool false, .bool false, .bool false] ∧ Nw w0 w') := by
  refine fn_of (n := 18) (args := [.string s]) Tryz.func138 rfl rfl rfl (W_seq (W_region (L_r (r_ab rfl) (L_r (r_ab rfl) (L_r (r_ab rfl) (L_nil (W_seq (W_region ?_))))))))
  refine L_r (r_ms rfl) ?_
  refine L_call (.plain rfl) rfl rfl (r_call Tryz.func168 rfl rfl rfl (by rfl)) (find_no base s _ hno hG hb) ?_
  rintro v7 w1 ⟨rfl, c1⟩
  have hz1 := c1.size
  refine L_r (r_ai rfl) (L_nil (W_seq (W_seq (W_region (L_r (r_mi rfl) (L_r (r_lss rfl rfl) (L_nil ?_)))))))
  refine W_if rfl (fun h9 => ?_) (fun h9 => ?_)
  ·
   refine W_seq (W_region (L_r (r_ab rfl) (L_r (r_ab rfl) (L_r (r_ab rfl) (L_nil (W_ret ?_))))))
   refine ret3 (u := .bool _) (v := .bool _) (x := .bool _) rfl rfl rfl rfl ?_
   exact ⟨rfl, Ch.au⟩
  · exact absurd (by decide) h9
theorem takes_yes (base : Nat) (s : ByteArray) (k : Nat) (o : ByteArray × Bool × Bool) (w0 : World) (hk : opIx s = some k) (hkl : k < 42) (ho : ∀ (w : World), Gv base w → ∀ (j : Nat) (u : Value), (opr o)[j]? = some u → w.cell? ⟨0, k * 3 + j, none⟩ = some u) (hG : Gv base w0) (hb : base ≤ w0.heap.size) : Does Tryz.prog 138 #[.string s] w0 (fun r w' => r = .tuple #[.bool o.2.1, .bool o.2.2, .bool true] ∧ Nw w0 w') := by
  refine fn_of (n := 18) (args := [.string s]) Tryz.func138 rfl rfl rfl (W_seq (W_region (L_r (r_ab rfl) (L_r (r_ab rfl) (L_r (r_ab rfl) (L_nil (W_seq (W_region ?_))))))))
  refine L_r (r_ms rfl) ?_
  refine L_call (.plain rfl) rfl rfl (r_call Tryz.func168 rfl rfl rfl (by rfl)) (find_yes base s k _ hk hG hb) ?_
  rintro v7 w1 ⟨rfl, c1⟩
  have hz1 := c1.size
  have hGw := fun W (c : Nw w0 W) => ho W (hG.nw c hb)
  refine L_r (r_ai rfl) (L_nil (W_seq (W_seq (W_region (L_r (r_mi rfl) (L_r (r_lss rfl rfl) (L_nil ?_)))))))
  refine W_if rfl (fun h9 => ?_) (fun h9 => ?_)
  · omega
  ·
   refine W_skip (W_seq ?_)
   refine W_still (by kernel_rfl) (by kernel_rfl) (fun w2 c2 hs2 => ?_)
   refine H_r (r_mi rfl) ?_
   refine H_r (r_idxarr Tryz.underlying159 (show _ = some 3 from rfl) rfl rfl (by omega) (by omega) (by conv => lhs; (try simp only [Nat.mul_one, Nat.zero_add, Int.toNat_natCast, Int.toNat_zero, Int.reduceToNat, Nat.reduceMul, Nat.reduceAdd]))) ?_
   refine H_r (r_fieldb Tryz.underlying158 rfl (show _ = some 1 from rfl) rfl rfl rfl) ?_
   refine H_r (r_loadG rfl rfl (by first | exact hGw _ Ch.au 1 _ rfl | exact hGw _ Ch.au 2 _ rfl)) ?_
   refine H_r (r_mi rfl) ?_
   refine H_r (r_idxarr Tryz.underlying159 (show _ = some 3 from rfl) rfl rfl (by omega) (by omega) (by conv => lhs; (try simp only [Nat.mul_one, Nat.zero_add, Int.toNat_natCast, Int.toNat_zero, Int.reduceToNat, Nat.reduceMul, Nat.reduceAdd]))) ?_
   refine H_r (r_fieldb Tryz.underlying158 rfl (show _ = some 1 from rfl) rfl rfl rfl) ?_
   refine H_r (r_loadG rfl rfl (by first | exact hGw _ Ch.au 1 _ rfl | exact hGw _ Ch.au 2 _ rfl)) ?_
   refine H_r (r_ab rfl) ?_
   refine H_r (r_ab rfl) ?_
   refine H_r (r_ab rfl) ?_
   refine H_nil (W_ret ?_)
   refine ret3 (u := .bool _) (v := .bool _) (x := .bool _) rfl rfl rfl rfl ?_
   exact ⟨rfl, Ch.au⟩
theorem takes_walk (base : Nat) (s : ByteArray) (w0 : World) (hG : Gv base w0) (hb : base ≤ w0.heap.size) : Does Tryz.prog 138 #[.string s] w0 (fun r w' => r = .tuple #[.bool (takesF s).1, .bool (takesF s).2.1, .bool (takesF s).2.2] ∧ Nw w0 w') := by
  cases h : opIx s with
  | none =>
    have e : takesF s = (false, false, false) := by unfold takesF; rw [h]
    rw [e]
    exact takes_no base s w0 h hG hb
  | some k =>
    have e : takesF s = ((opT.getD k default).2.1, (opT.getD k default).2.2, true) := by unfold takesF; rw [h]
    rw [e]
    exact takes_yes base s k (opT.getD k default) w0 h (opIx_lt h) (fun w hw => gv_row hw (opIx_lt h)) hG hb
theorem opA_row (i : Nat) (h : i < 42) : ∃ o, opT[i]? = some o ∧ opL.toArray.extract (i * 3) (i * 3 + 3) = #[.string o.1, .bool o.2.1, .bool o.2.2] := by
  have h' : i < opT.length := by rw [opT_len]; exact h
  refine ⟨opT[i], List.getElem?_eq_getElem h', ?_⟩
  have hr := opL_row i h'
  have hl := opL_len
  apply Array.ext
  · simp [hl]; omega
  ·
   intro j h1 h2
   have hj : j < 3 := by simpa using h2
   have e1 : (opL.toArray.extract (i * 3) (i * 3 + 3))[j]? = opL[i * 3 + j]? := by
     rw [Array.getElem?_extract]
     simp [hl]; omega
   have e2 : opL[i * 3 + j]? = (#[Value.string opT[i].1, .bool opT[i].2.1, .bool opT[i].2.2] : Array Value)[j]? := by
     rcases j with _ | _ | _ | j
     · exact hr 0 _ rfl
     · exact hr 1 _ rfl
     · exact hr 2 _ rfl
     · omega
   have := e1.trans e2
   rw [Array.getElem?_eq_getElem h1, Array.getElem?_eq_getElem h2] at this
   injection this
def nmL : List Value := opT.map fun o => .string o.1
theorem nm_take (i : Nat) (o : ByteArray × Bool × Bool) (h : opT[i]? = some o) : (opT.take (i + 1)).map (fun o => Value.string o.1) = (opT.take i).map (fun o => Value.string o.1) ++ [.string o.1] := by
  obtain ⟨hi, e⟩ := List.getElem?_eq_some_iff.1 h
  rw [List.take_succ_eq_append_getElem hi, List.map_append, e]; rfl
theorem str_info : (Tryz.prog.info? 9).map (fun i => (i.zero, i.size, i.bytes)) = some (some (.string ByteArray.empty), 1, 16) := rfl
theorem ops_walk (base : Nat) (w0 : World) (hG : Gv base w0) (hb : base ≤ w0.heap.size) : Does Tryz.prog 137 #[] w0 (fun r w' => ∃ v, r = v ∧ Ow w' w0.heap.size 9 1 v 42 nmL ∧ Nw w0 w') := by
  refine fn_of (n := 15) (args := []) Tryz.func137 rfl rfl rfl (W_seq (W_region (L_r (r_av) (L_nil (W_seq (W_region (L_r (r_av) (L_nil ?_))))))))
  refine W_seq (W_seq (W_region ?_))
  refine L_r (r_loadrowG (us := opL) Tryz.underlying159 rfl rfl rfl rfl (by exact (hG.nw Ch.au hb).ops)) ?_
  obtain ⟨A, hA⟩ : ∃ A, A = opL.toArray := ⟨_, rfl⟩
  rw [← hA]
  have hAr : ∀ i, i < 42 → ∃ o, opT[i]? = some o ∧ A.extract (i * 3) (i * 3 + 3) = #[.string o.1, .bool o.2.1, .bool o.2.2] := by rw [hA]; exact opA_row
  clear hA
  have hnl : nmL = (opT.take 42).map (fun o => Value.string o.1) := by rw [show 42 = opT.length from opT_len.symm, List.take_length]; rfl
  have hnt := nm_take
  rw [hnl]
  clear hnl
  generalize opT = T at hAr hnt ⊢
  refine L_r (r_mi rfl) (L_nil (W_block ?_))
  refine W_loopF [4] (fun mz_ f W => ∃ (i : Nat) (v : Value), f 5 = .int .i64 i ∧ f 1 = v ∧ (i ≤ 42 ∧ Ow W w0.heap.size 9 1 v i ((T.take i).map (fun o => Value.string o.1)) ∧ Nw w0 W) ∧ mz_ = 42 - i) ?_ ?_
  ·
   refine ⟨_, 0, .slice none 0 0, rfl, rfl, ?_, rfl⟩
   exact ⟨by omega, Ow.nil _ _ _ _, Ch.au⟩
  rintro m0 g0 w1 ⟨i, v, hf5, hf1, hR0, rfl⟩
  refine W_as 5 hf5 rfl ?_
  refine W_as 1 hf1 rfl ?_
  clear hf5 hf1
  obtain ⟨hi, hO, hnw⟩ := hR0
  have hz := hnw.size
  obtain ⟨q, hq⟩ : ∃ x, x = v := ⟨_, rfl⟩
  refine W_seq (W_region (L_r (r_lss rfl rfl) (L_nil (W_seq ?_))))
  refine W_if rfl (fun h6 => ?_) (fun h6 => ?_)
  ·
   obtain ⟨o, hoi, hoe⟩ := hAr i (by omega)
   refine W_skip (W_seq (W_block (W_seq (W_region ?_))))
   refine L_r (r_indexA (row := #[_, _, _]) Tryz.underlying159 (show _ = some 3 from rfl) Tryz.underlying158 rfl rfl rfl (by omega) (by omega) (by exact hoe)) ?_
   refine L_new (.plain rfl) rfl rfl (r_alloca rfl) (fun w2 b3 hb3 eb2 hs2 c2 => ?_)
   refine L_storerow (.plain rfl) rfl rfl Bk.au (by first | rfl | (simp; done) | assumption) (by first | rfl | assumption) (by first | rfl | (simp [Value.oneCell']; done) | assumption) (fun w3 hb3 hs3 c3 => (L_nil (W_region (L_r (r_mv) ?_))))
   refine L_r (r_fieldb Tryz.underlying158 rfl (show _ = some 1 from rfl) rfl rfl (show _ = 0 from rfl)) (L_r (r_lb rfl rfl) ?_)
   refine L_build1 [.string _] Tryz.underlying22 rfl rfl rfl (.plain rfl) rfl (by rfl) (by rfl) (by rfl) (fun b11 w4 hb11 hv11 eb4 hs4 c4 => ?_)
   refine L_apow Tryz.underlying22 str_info rfl (by decide) (.plain rfl) rfl (by conv => lhs; whnf) (by conv => lhs; whnf) Ow.au Sl.au (by intro y hy; simp at hy; subst hy; rfl) (by unfold maxLen; omega) (by omega) (by omega) (fun v12 w5 ho12 c5 hob12 => ?_)
   have hz5 := c5.size
   clear hq
   obtain ⟨q, hq⟩ : ∃ x, x = v12 := ⟨_, rfl⟩
   refine L_r (r_av) (L_nil (W_region ?_))
   refine L_r (r_add rfl rfl (by first | exact wr_i64 (by omega) | rfl)) (L_r (r_mi rfl) (L_nil ?_))
   refine ⟨⟨fx2, trivial⟩, _, ?_, i + 1, q, rfl, (by exact hq.symm), ?_, rfl⟩
   · omega
   subst hq
   exact ⟨by omega, by rw [hnt i o hoi]; exact ho12, Ch.au⟩
  ·
   refine W_exit ?_
   repeat (first | refine blk_hit ?_ | refine blk_miss rfl ?_)
   refine W_seq (W_region (L_r (r_mv) (L_r (r_av) (L_nil (W_ret ?_)))))
   refine ret1 rfl (by conv => lhs; whnf) ?_
   have e : i = 42 := by omega
   subst e
   exact ⟨v, rfl, hO, Ch.au⟩
end Go.Proofs.YthpknpfhpkkheaaGreatDoor

namespace Go.Proofs.YthpknpfhpkkheaaGreatDoor
open Go Go.RowKit
set_option linter.unusedVariables false
set_option linter.unusedSimpArgs false
set_option maxRecDepth 100000
structure Ins where
  op : ByteArray
  n : Int
  s : ByteArray
abbrev insl (x : Ins) : List Value := [.string x.op, .int .i64 x.n, .string x.s]
abbrev Ins.v (x : Ins) : Value := .agg #[.string x.op, .int .i64 x.n, .string x.s]
def noNl (s : ByteArray) : Prop := Lib.contains (bs s) [10] = false
instance (s : ByteArray) : Decidable (noNl s) := inferInstanceAs (Decidable (_ = _))
def wordP (s : ByteArray) : Prop := s.size ≤ 64 ∧ Lib.validD s.data.toList = true ∧ noNl s
instance (s : ByteArray) : Decidable (wordP s) := inferInstanceAs (Decidable (_ ∧ _))
def textP (n s : ByteArray) : Prop :=
  if n = { data := #[119, 111, 114, 100] } then wordP s
  else if n = { data := #[110, 101, 119] } then classP s
  else if n = { data := #[105, 115] } ∨ n = { data := #[99, 97, 115, 116] } then rightK s ∧ ¬ plainP s
  else if n = { data := #[97, 114, 114, 97, 121] } then rightK s ∧ deepN s < 3
  else (partsO s).isSome = true
instance (n s : ByteArray) : Decidable (textP n s) := by
  unfold textP
  infer_instance
theorem contains_use (s : ByteArray) (w : World) : Does Tryz.prog 178 #[.string s, .string { data := #[10] }] w (fun r w' => r = .bool (Lib.contains (bs s) [10]) ∧ w' = w) :=
  Calls.mono (Any.strings_Contains_one { Tryz.laysContains with } s 10 w) fun _ _ ⟨e, b⟩ => ⟨_, e, congrArg Value.bool (by unfold Lib.contains; rw [Lib.index_one]; rfl), b⟩
theorem parts_use (base : Nat) (s : ByteArray) (w0 : World) (hs : s.size ≤ 1000000000000000) (hG : Gv base w0) : Does Tryz.prog 180 #[.string s] w0 (fun r w' => ∃ a b e, r = .tuple #[.string a, .string b, .int .i64 e] ∧ (e = 0 ↔ (partsO s).isSome = true) ∧ Nw w0 w') := by
  refine (parts_walk s w0 hs).mono ?_
  rintro r w' ⟨rfl, c⟩
  cases h : partsO s with
  | none => exact ⟨_, _, 30, rfl, by simp, c⟩
  | some p => exact ⟨p.1, p.2, 0, rfl, by simp, c⟩
theorem tp_word {n s : ByteArray} (h : n = { data := #[119, 111, 114, 100] }) : textP n s = wordP s := if_pos h
theorem tp_new {n s : ByteArray} (h1 : ¬ n = { data := #[119, 111, 114, 100] }) (h : n = { data := #[110, 101, 119] }) : textP n s = classP s := (if_neg h1).trans (if_pos h)
theorem tp_is {n s : ByteArray} (h1 : ¬ n = { data := #[119, 111, 114, 100] }) (h2 : ¬ n = { data := #[110, 101, 119] }) (h : n = { data := #[105, 115] } ∨ n = { data := #[99, 97, 115, 116] }) : textP n s = (rightK s ∧ ¬ plainP s) := (if_neg h1).trans ((if_neg h2).trans (if_pos h))
theorem tp_array {n s : ByteArray} (h1 : ¬ n = { data := #[119, 111, 114, 100] }) (h2 : ¬ n = { data := #[110, 101, 119] }) (h3 : ¬ n = { data := #[105, 115] }) (h4 : ¬ n = { data := #[99, 97, 115, 116] }) (h : n = { data := #[97, 114, 114, 97, 121] }) : textP n s = (rightK s ∧ deepN s < 3) := (if_neg h1).trans ((if_neg h2).trans ((if_neg (by rintro (k | k) <;> contradiction)).trans (if_pos h)))
theorem tp_else {n s : ByteArray} (h1 : ¬ n = { data := #[119, 111, 114, 100] }) (h2 : ¬ n = { data := #[110, 101, 119] }) (h3 : ¬ n = { data := #[105, 115] }) (h4 : ¬ n = { data := #[99, 97, 115, 116] }) (h : ¬ n = { data := #[97, 114, 114, 97, 121] }) : textP n s = ((partsO s).isSome = true) := (if_neg h1).trans ((if_neg h2).trans ((if_neg (by rintro (k | k) <;> contradiction)).trans (if_neg h)))
theorem optext_walk (base : Nat) (n s : ByteArray) (w0 : World) (hG : Gv base w0) (hb : base ≤ w0.heap.size) (hs : s.size ≤ 1000000000000000) : Does Tryz.prog 164 #[.string n, .string s] w0 (fun r w' => r = .bool (decide (textP n s)) ∧ Nw w0 w') := by
  refine fn_of (n := 54) (args := [.string n, .string s]) Tryz.func164 rfl rfl rfl (W_seq (W_region (L_r (r_ab rfl) (L_nil (W_seq (W_seq (W_region (L_r (r_ms rfl) ?_))))))))
  refine L_nil (W_block (W_seq (W_region (L_r (r_eqls rfl rfl) (L_r (r_ab rfl) (L_nil ?_))))))
  refine W_if rfl (fun h9 => ?_) (fun h9 => ?_)
  ·
   refine W_seq (W_region (L_r (r_ms rfl) ?_))
   refine L_r (r_lens Tryz.underlying9 rfl) (L_r (r_leq rfl rfl) (L_r (r_mb rfl) ?_))
   refine L_case (d := 14) rfl (fun h14 => ?_) (fun h14 => ?_)
   ·
    refine L_g (r_ms rfl) ?_
    refine L_call (.yes 3 true rfl rfl) rfl rfl (r_call Tryz.func170 rfl rfl rfl (by rfl)) (valid_walk base s _ (hG.nw Ch.au hb).tab (by omega)) ?_
    rintro v16 w1 ⟨rfl, c1⟩
    have hz1 := c1.size
    refine L_r (r_pt rfl rfl) (L_r (r_mb rfl) ?_)
    refine L_caseb (d := 18) rfl (fun h18 => ?_) (fun h18 => ?_)
    ·
     refine L_g (r_ms rfl) ?_
     refine L_call (.yes 7 true rfl rfl) rfl rfl (r_call Tryz.func178 rfl rfl rfl (by rfl)) (contains_use s _) ?_
     rintro v20 w2 ⟨rfl, rfl⟩
     refine L_g (r_not rfl) (L_r (r_pt rfl rfl) (L_r (r_ab rfl) (L_nil (W_ret ?_))))
     refine ret1 (v := .bool _) rfl rfl ?_
     refine ⟨?_, Ch.au⟩
     (try simp only [decide_eq_true_eq, decide_eq_false_iff_not] at *)
     first
     | contradiction
     | exact bool_dec (he.trans (iff_of_eq (tp_else (by assumption) (by assumption) (by assumption) (by assumption) (by assumption)).symm))
     | exact bool_dec (iff_of_eq (tp_new (by assumption) (by assumption)).symm)
     | exact bool_f (by rw [tp_word (by assumption)]; rintro ⟨k1, k2, k3⟩; first | omega | simp_all)
     | exact dec_b (by rw [tp_word (by assumption)]; unfold wordP noNl; constructor; (intro k; exact ⟨by omega, by assumption, by simpa using k⟩); (rintro ⟨k1, k2, k3⟩; simpa using k3))
     | exact bool_f (by rw [tp_is (by assumption) (by assumption) (by first | exact .inl (by assumption) | exact .inr (by assumption))]; rintro ⟨k1, k2⟩; contradiction)
     | exact dec_b (by rw [tp_is (by assumption) (by assumption) (by first | exact .inl (by assumption) | exact .inr (by assumption))]; constructor; (intro k; exact ⟨by assumption, by simpa using k⟩); (rintro ⟨k1, k2⟩; simpa using k2))
     | exact bool_f (by rw [tp_array (by assumption) (by assumption) (by assumption) (by assumption) (by assumption)]; rintro ⟨k1, k2⟩; contradiction)
     | exact bool_dec (by rw [tp_array (by assumption) (by assumption) (by assumption) (by assumption) (by assumption)]; exact ⟨fun k => ⟨by assumption, by omega⟩, fun k => by have := k.2; omega⟩)
    ·
     refine L_ps (L_ps (L_ps (L_r (r_pf rfl rfl) (L_r (r_ab rfl) (L_nil (W_ret ?_))))))
     refine ret1 (v := .bool _) rfl rfl ?_
     refine ⟨?_, Ch.au⟩
     (try simp only [decide_eq_true_eq, decide_eq_false_iff_not] at *)
     first
     | contradiction
     | exact bool_dec (he.trans (iff_of_eq (tp_else (by assumption) (by assumption) (by assumption) (by assumption) (by assumption)).symm))
     | exact bool_dec (iff_of_eq (tp_new (by assumption) (by assumption)).symm)
     | exact bool_f (by rw [tp_word (by assumption)]; rintro ⟨k1, k2, k3⟩; first | omega | simp_all)
     | exact dec_b (by rw [tp_word (by assumption)]; unfold wordP noNl; constructor; (intro k; exact ⟨by omega, by assumption, by simpa using k⟩); (rintro ⟨k1, k2, k3⟩; simpa using k3))
     | exact bool_f (by rw [tp_is (by assumption) (by assumption) (by first | exact .inl (by assumption) | exact .inr (by assumption))]; rintro ⟨k1, k2⟩; contradiction)
     | exact dec_b (by rw [tp_is (by assumption) (by assumption) (by first | exact .inl (by assumption) | exact .inr (by assumption))]; constructor; (intro k; exact ⟨by assumption, by simpa using k⟩); (rintro ⟨k1, k2⟩; simpa using k2))
     | exact bool_f (by rw [tp_array (by assumption) (by assumption) (by assumption) (by assumption) (by assumption)]; rintro ⟨k1, k2⟩; contradiction)
     | exact bool_dec (by rw [tp_array (by assumption) (by assumption) (by assumption) (by assumption) (by assumption)]; exact ⟨fun k => ⟨by assumption, by omega⟩, fun k => by have := k.2; omega⟩)
   ·
    refine L_ps (L_ps (L_r (r_pf rfl rfl) (L_r (r_mb rfl) (L_ps (L_ps (L_ps (L_r (r_pf rfl rfl) (L_r (r_ab rfl) ?_))))))))
    refine L_nil (W_ret ?_)
    refine ret1 (v := .bool _) rfl rfl ?_
    refine ⟨?_, Ch.au⟩
    (try simp only [decide_eq_true_eq, decide_eq_false_iff_not] at *)
    first
    | contradiction
    | exact bool_dec (he.trans (iff_of_eq (tp_else (by assumption) (by assumption) (by assumption) (by assumption) (by assumption)).symm))
    | exact bool_dec (iff_of_eq (tp_new (by assumption) (by assumption)).symm)
    | exact bool_f (by rw [tp_word (by assumption)]; rintro ⟨k1, k2, k3⟩; first | omega | simp_all)
    | exact dec_b (by rw [tp_word (by assumption)]; unfold wordP noNl; constructor; (intro k; exact ⟨by omega, by assumption, by simpa using k⟩); (rintro ⟨k1, k2, k3⟩; simpa using k3))
    | exact bool_f (by rw [tp_is (by assumption) (by assumption) (by first | exact .inl (by assumption) | exact .inr (by assumption))]; rintro ⟨k1, k2⟩; contradiction)
    | exact dec_b (by rw [tp_is (by assumption) (by assumption) (by first | exact .inl (by assumption) | exact .inr (by assumption))]; constructor; (intro k; exact ⟨by assumption, by simpa using k⟩); (rintro ⟨k1, k2⟩; simpa using k2))
    | exact bool_f (by rw [tp_array (by assumption) (by assumption) (by assumption) (by assumption) (by assumption)]; rintro ⟨k1, k2⟩; contradiction)
    | exact bool_dec (by rw [tp_array (by assumption) (by assumption) (by assumption) (by assumption) (by assumption)]; exact ⟨fun k => ⟨by assumption, by omega⟩, fun k => by have := k.2; omega⟩)
  ·
   refine W_seq (W_region (L_r (r_eqls rfl rfl) (L_r (r_ab rfl) (L_nil ?_))))
   refine W_if rfl (fun h23 => ?_) (fun h23 => ?_)
   ·
    refine W_seq (W_region (L_r (r_ms rfl) ?_))
    refine L_call (.plain rfl) rfl rfl (r_call Tryz.func58 rfl rfl rfl (by rfl)) (class_walk s _) ?_
    rintro v26 w3 ⟨rfl, c3⟩
    have hz3 := c3.size
    refine L_r (r_ab rfl) (L_nil (W_ret ?_))
    refine ret1 (v := .bool _) rfl rfl ?_
    refine ⟨?_, Ch.au⟩
    (try simp only [decide_eq_true_eq, decide_eq_false_iff_not] at *)
    first
    | contradiction
    | exact bool_dec (he.trans (iff_of_eq (tp_else (by assumption) (by assumption) (by assumption) (by assumption) (by assumption)).symm))
    | exact bool_dec (iff_of_eq (tp_new (by assumption) (by assumption)).symm)
    | exact bool_f (by rw [tp_word (by assumption)]; rintro ⟨k1, k2, k3⟩; first | omega | simp_all)
    | exact dec_b (by rw [tp_word (by assumption)]; unfold wordP noNl; constructor; (intro k; exact ⟨by omega, by assumption, by simpa using k⟩); (rintro ⟨k1, k2, k3⟩; simpa using k3))
    | exact bool_f (by rw [tp_is (by assumption) (by assumption) (by first | exact .inl (by assumption) | exact .inr (by assumption))]; rintro ⟨k1, k2⟩; contradiction)
    | exact dec_b (by rw [tp_is (by assumption) (by assumption) (by first | exact .inl (by assumption) | exact .inr (by assumption))]; constructor; (intro k; exact ⟨by assumption, by simpa using k⟩); (rintro ⟨k1, k2⟩; simpa using k2))
    | exact bool_f (by rw [tp_array (by assumption) (by assumption) (by assumption) (by assumption) (by assumption)]; rintro ⟨k1, k2⟩; contradiction)
    | exact bool_dec (by rw [tp_array (by assumption) (by assumption) (by assumption) (by assumption) (by assumption)]; exact ⟨fun k => ⟨by assumption, by omega⟩, fun k => by have := k.2; omega⟩)
   ·
    refine W_seq (W_seq (W_region (L_r (r_eqls rfl rfl) (L_r (r_ab rfl) (L_nil ?_)))))
    refine W_if rfl (fun h27 => ?_) (fun h27 => ?_)
    ·
     refine W_skip ?_
     refine W_if rfl (fun h27 => ?_) (fun h27 => ?_)
     ·
      refine W_seq (W_region (L_r (r_ms rfl) ?_))
      refine L_call (.plain rfl) rfl rfl (r_call Tryz.func68 rfl rfl rfl (by rfl)) (rightk_walk s _ hs) ?_
      rintro v31 w4 ⟨rfl, c4⟩
      have hz4 := c4.size
      refine L_r (r_mb rfl) ?_
      refine L_caseb (d := 32) rfl (fun h32 => ?_) (fun h32 => ?_)
      ·
       refine L_g (r_ms rfl) ?_
       refine L_call (.yes 2 true rfl rfl) rfl rfl (r_call Tryz.func126 rfl rfl rfl (by rfl)) (plain_walk s _) ?_
       rintro v34 w5 ⟨rfl, rfl⟩
       refine L_g (r_not rfl) (L_r (r_pt rfl rfl) (L_r (r_ab rfl) (L_nil (W_ret ?_))))
       refine ret1 (v := .bool _) rfl rfl ?_
       refine ⟨?_, Ch.au⟩
       (try simp only [decide_eq_true_eq, decide_eq_false_iff_not] at *)
       first
       | contradiction
       | exact bool_dec (he.trans (iff_of_eq (tp_else (by assumption) (by assumption) (by assumption) (by assumption) (by assumption)).symm))
       | exact bool_dec (iff_of_eq (tp_new (by assumption) (by assumption)).symm)
       | exact bool_f (by rw [tp_word (by assumption)]; rintro ⟨k1, k2, k3⟩; first | omega | simp_all)
       | exact dec_b (by rw [tp_word (by assumption)]; unfold wordP noNl; constructor; (intro k; exact ⟨by omega, by assumption, by simpa using k⟩); (rintro ⟨k1, k2, k3⟩; simpa using k3))
       | exact bool_f (by rw [tp_is (by assumption) (by assumption) (by first | exact .inl (by assumption) | exact .inr (by assumption))]; rintro ⟨k1, k2⟩; contradiction)
       | exact dec_b (by rw [tp_is (by assumption) (by assumption) (by first | exact .inl (by assumption) | exact .inr (by assumption))]; constructor; (intro k; exact ⟨by assumption, by simpa using k⟩); (rintro ⟨k1, k2⟩; simpa using k2))
       | exact bool_f (by rw [tp_array (by assumption) (by assumption) (by assumption) (by assumption) (by assumption)]; rintro ⟨k1, k2⟩; contradiction)
       | exact bool_dec (by rw [tp_array (by assumption) (by assumption) (by assumption) (by assumption) (by assumption)]; exact ⟨fun k => ⟨by assumption, by omega⟩, fun k => by have := k.2; omega⟩)
      ·
       refine L_ps (L_ps (L_ps (L_r (r_pf rfl rfl) (L_r (r_ab rfl) (L_nil (W_ret ?_))))))
       refine ret1 (v := .bool _) rfl rfl ?_
       refine ⟨?_, Ch.au⟩
       (try simp only [decide_eq_true_eq, decide_eq_false_iff_not] at *)
       first
       | contradiction
       | exact bool_dec (he.trans (iff_of_eq (tp_else (by assumption) (by assumption) (by assumption) (by assumption) (by assumption)).symm))
       | exact bool_dec (iff_of_eq (tp_new (by assumption) (by assumption)).symm)
       | exact bool_f (by rw [tp_word (by assumption)]; rintro ⟨k1, k2, k3⟩; first | omega | simp_all)
       | exact dec_b (by rw [tp_word (by assumption)]; unfold wordP noNl; constructor; (intro k; exact ⟨by omega, by assumption, by simpa using k⟩); (rintro ⟨k1, k2, k3⟩; simpa using k3))
       | exact bool_f (by rw [tp_is (by assumption) (by assumption) (by first | exact .inl (by assumption) | exact .inr (by assumption))]; rintro ⟨k1, k2⟩; contradiction)
       | exact dec_b (by rw [tp_is (by assumption) (by assumption) (by first | exact .inl (by assumption) | exact .inr (by assumption))]; constructor; (intro k; exact ⟨by assumption, by simpa using k⟩); (rintro ⟨k1, k2⟩; simpa using k2))
       | exact bool_f (by rw [tp_array (by assumption) (by assumption) (by assumption) (by assumption) (by assumption)]; rintro ⟨k1, k2⟩; contradiction)
       | exact bool_dec (by rw [tp_array (by assumption) (by assumption) (by assumption) (by assumption) (by assumption)]; exact ⟨fun k => ⟨by assumption, by omega⟩, fun k => by have := k.2; omega⟩)
     ·
      refine W_seq (W_region (L_r (r_eqls rfl rfl) (L_r (r_ab rfl) (L_nil ?_))))
      refine W_if rfl (fun h37 => ?_) (fun h37 => ?_)
      ·
       refine W_seq (W_region (L_r (r_ms rfl) ?_))
       refine L_call (.plain rfl) rfl rfl (r_call Tryz.func68 rfl rfl rfl (by rfl)) (rightk_walk s _ hs) ?_
       rintro v40 w6 ⟨rfl, c6⟩
       have hz6 := c6.size
       refine L_r (r_mb rfl) ?_
       refine L_caseb (d := 41) rfl (fun h41 => ?_) (fun h41 => ?_)
       ·
        refine L_g (r_ms rfl) ?_
        refine L_call (.yes 2 true rfl rfl) rfl rfl (r_call Tryz.func179 rfl rfl rfl (by rfl)) (deep_walk s _ hs) ?_
        rintro v43 w7 ⟨rfl, c7⟩
        have hz7 := c7.size
        refine L_g (r_lss rfl rfl) (L_r (r_pt rfl rfl) (L_r (r_ab rfl) (L_nil (W_ret ?_))))
        refine ret1 (v := .bool _) rfl rfl ?_
        refine ⟨?_, Ch.au⟩
        (try simp only [decide_eq_true_eq, decide_eq_false_iff_not] at *)
        first
        | contradiction
        | exact bool_dec (he.trans (iff_of_eq (tp_else (by assumption) (by assumption) (by assumption) (by assumption) (by assumption)).symm))
        | exact bool_dec (iff_of_eq (tp_new (by assumption) (by assumption)).symm)
        | exact bool_f (by rw [tp_word (by assumption)]; rintro ⟨k1, k2, k3⟩; first | omega | simp_all)
        | exact dec_b (by rw [tp_word (by assumption)]; unfold wordP noNl; constructor; (intro k; exact ⟨by omega, by assumption, by simpa using k⟩); (rintro ⟨k1, k2, k3⟩; simpa using k3))
        | exact bool_f (by rw [tp_is (by assumption) (by assumption) (by first | exact .inl (by assumption) | exact .inr (by assumption))]; rintro ⟨k1, k2⟩; contradiction)
        | exact dec_b (by rw [tp_is (by assumption) (by assumption) (by first | exact .inl (by assumption) | exact .inr (by assumption))]; constructor; (intro k; exact ⟨by assumption, by simpa using k⟩); (rintro ⟨k1, k2⟩; simpa using k2))
        | exact bool_f (by rw [tp_array (by assumption) (by assumption) (by assumption) (by assumption) (by assumption)]; rintro ⟨k1, k2⟩; contradiction)
        | exact bool_dec (by rw [tp_array (by assumption) (by assumption) (by assumption) (by assumption) (by assumption)]; exact ⟨fun k => ⟨by assumption, by omega⟩, fun k => by have := k.2; omega⟩)
       ·
        refine L_ps (L_ps (L_ps (L_r (r_pf rfl rfl) (L_r (r_ab rfl) (L_nil (W_ret ?_))))))
        refine ret1 (v := .bool _) rfl rfl ?_
        refine ⟨?_, Ch.au⟩
        (try simp only [decide_eq_true_eq, decide_eq_false_iff_not] at *)
        first
        | contradiction
        | exact bool_dec (he.trans (iff_of_eq (tp_else (by assumption) (by assumption) (by assumption) (by assumption) (by assumption)).symm))
        | exact bool_dec (iff_of_eq (tp_new (by assumption) (by assumption)).symm)
        | exact bool_f (by rw [tp_word (by assumption)]; rintro ⟨k1, k2, k3⟩; first | omega | simp_all)
        | exact dec_b (by rw [tp_word (by assumption)]; unfold wordP noNl; constructor; (intro k; exact ⟨by omega, by assumption, by simpa using k⟩); (rintro ⟨k1, k2, k3⟩; simpa using k3))
        | exact bool_f (by rw [tp_is (by assumption) (by assumption) (by first | exact .inl (by assumption) | exact .inr (by assumption))]; rintro ⟨k1, k2⟩; contradiction)
        | exact dec_b (by rw [tp_is (by assumption) (by assumption) (by first | exact .inl (by assumption) | exact .inr (by assumption))]; constructor; (intro k; exact ⟨by assumption, by simpa using k⟩); (rintro ⟨k1, k2⟩; simpa using k2))
        | exact bool_f (by rw [tp_array (by assumption) (by assumption) (by assumption) (by assumption) (by assumption)]; rintro ⟨k1, k2⟩; contradiction)
        | exact bool_dec (by rw [tp_array (by assumption) (by assumption) (by assumption) (by assumption) (by assumption)]; exact ⟨fun k => ⟨by assumption, by omega⟩, fun k => by have := k.2; omega⟩)
      ·
       refine W_skip (W_seq (W_region (L_r (r_ms rfl) ?_)))
       refine L_call (.plain rfl) rfl rfl (r_call Tryz.func180 rfl rfl rfl (by rfl)) (parts_use base s _ hs (hG.nw Ch.au hb)) ?_
       rintro v48 w8 ⟨a, b, e, rfl, he, c8⟩
       have hz8 := c8.size
       refine L_r (r_mv) (L_r (r_ext3_0 rfl) (L_r (r_ext3_1 rfl) (L_r (r_ext3_2 rfl) (L_r (r_as rfl) (L_r (r_as rfl) (L_r (r_ai rfl) (L_nil (W_seq ?_))))))))
       refine W_region (L_r (r_mi rfl) (L_r (r_eql rfl rfl) (L_r (r_ab rfl) (L_nil (W_ret ?_)))))
       refine ret1 (v := .bool _) rfl rfl ?_
       refine ⟨?_, Ch.au⟩
       (try simp only [decide_eq_true_eq, decide_eq_false_iff_not] at *)
       first
       | contradiction
       | exact bool_dec (he.trans (iff_of_eq (tp_else (by assumption) (by assumption) (by assumption) (by assumption) (by assumption)).symm))
       | exact bool_dec (iff_of_eq (tp_new (by assumption) (by assumption)).symm)
       | exact bool_f (by rw [tp_word (by assumption)]; rintro ⟨k1, k2, k3⟩; first | omega | simp_all)
       | exact dec_b (by rw [tp_word (by assumption)]; unfold wordP noNl; constructor; (intro k; exact ⟨by omega, by assumption, by simpa using k⟩); (rintro ⟨k1, k2, k3⟩; simpa using k3))
       | exact bool_f (by rw [tp_is (by assumption) (by assumption) (by first | exact .inl (by assumption) | exact .inr (by assumption))]; rintro ⟨k1, k2⟩; contradiction)
       | exact dec_b (by rw [tp_is (by assumption) (by assumption) (by first | exact .inl (by assumption) | exact .inr (by assumption))]; constructor; (intro k; exact ⟨by assumption, by simpa using k⟩); (rintro ⟨k1, k2⟩; simpa using k2))
       | exact bool_f (by rw [tp_array (by assumption) (by assumption) (by assumption) (by assumption) (by assumption)]; rintro ⟨k1, k2⟩; contradiction)
       | exact bool_dec (by rw [tp_array (by assumption) (by assumption) (by assumption) (by assumption) (by assumption)]; exact ⟨fun k => ⟨by assumption, by omega⟩, fun k => by have := k.2; omega⟩)
    ·
     refine W_region (L_r (r_eqls rfl rfl) (L_r (r_ab rfl) (L_nil ?_)))
     refine W_if rfl (fun h27 => ?_) (fun h27 => ?_)
     ·
      refine W_seq (W_region (L_r (r_ms rfl) ?_))
      refine L_call (.plain rfl) rfl rfl (r_call Tryz.func68 rfl rfl rfl (by rfl)) (rightk_walk s _ hs) ?_
      rintro v31 w9 ⟨rfl, c9⟩
      have hz9 := c9.size
      refine L_r (r_mb rfl) ?_
      refine L_caseb (d := 32) rfl (fun h32 => ?_) (fun h32 => ?_)
      ·
       refine L_g (r_ms rfl) ?_
       refine L_call (.yes 2 true rfl rfl) rfl rfl (r_call Tryz.func126 rfl rfl rfl (by rfl)) (plain_walk s _) ?_
       rintro v34 w10 ⟨rfl, rfl⟩
       refine L_g (r_not rfl) (L_r (r_pt rfl rfl) (L_r (r_ab rfl) (L_nil (W_ret ?_))))
       refine ret1 (v := .bool _) rfl rfl ?_
       refine ⟨?_, Ch.au⟩
       (try simp only [decide_eq_true_eq, decide_eq_false_iff_not] at *)
       first
       | contradiction
       | exact bool_dec (he.trans (iff_of_eq (tp_else (by assumption) (by assumption) (by assumption) (by assumption) (by assumption)).symm))
       | exact bool_dec (iff_of_eq (tp_new (by assumption) (by assumption)).symm)
       | exact bool_f (by rw [tp_word (by assumption)]; rintro ⟨k1, k2, k3⟩; first | omega | simp_all)
       | exact dec_b (by rw [tp_word (by assumption)]; unfold wordP noNl; constructor; (intro k; exact ⟨by omega, by assumption, by simpa using k⟩); (rintro ⟨k1, k2, k3⟩; simpa using k3))
       | exact bool_f (by rw [tp_is (by assumption) (by assumption) (by first | exact .inl (by assumption) | exact .inr (by assumption))]; rintro ⟨k1, k2⟩; contradiction)
       | exact dec_b (by rw [tp_is (by assumption) (by assumption) (by first | exact .inl (by assumption) | exact .inr (by assumption))]; constructor; (intro k; exact ⟨by assumption, by simpa using k⟩); (rintro ⟨k1, k2⟩; simpa using k2))
       | exact bool_f (by rw [tp_array (by assumption) (by assumption) (by assumption) (by assumption) (by assumption)]; rintro ⟨k1, k2⟩; contradiction)
       | exact bool_dec (by rw [tp_array (by assumption) (by assumption) (by assumption) (by assumption) (by assumption)]; exact ⟨fun k => ⟨by assumption, by omega⟩, fun k => by have := k.2; omega⟩)
      ·
       refine L_ps (L_ps (L_ps (L_r (r_pf rfl rfl) (L_r (r_ab rfl) (L_nil (W_ret ?_))))))
       refine ret1 (v := .bool _) rfl rfl ?_
       refine ⟨?_, Ch.au⟩
       (try simp only [decide_eq_true_eq, decide_eq_false_iff_not] at *)
       first
       | contradiction
       | exact bool_dec (he.trans (iff_of_eq (tp_else (by assumption) (by assumption) (by assumption) (by assumption) (by assumption)).symm))
       | exact bool_dec (iff_of_eq (tp_new (by assumption) (by assumption)).symm)
       | exact bool_f (by rw [tp_word (by assumption)]; rintro ⟨k1, k2, k3⟩; first | omega | simp_all)
       | exact dec_b (by rw [tp_word (by assumption)]; unfold wordP noNl; constructor; (intro k; exact ⟨by omega, by assumption, by simpa using k⟩); (rintro ⟨k1, k2, k3⟩; simpa using k3))
       | exact bool_f (by rw [tp_is (by assumption) (by assumption) (by first | exact .inl (by assumption) | exact .inr (by assumption))]; rintro ⟨k1, k2⟩; contradiction)
       | exact dec_b (by rw [tp_is (by assumption) (by assumption) (by first | exact .inl (by assumption) | exact .inr (by assumption))]; constructor; (intro k; exact ⟨by assumption, by simpa using k⟩); (rintro ⟨k1, k2⟩; simpa using k2))
       | exact bool_f (by rw [tp_array (by assumption) (by assumption) (by assumption) (by assumption) (by assumption)]; rintro ⟨k1, k2⟩; contradiction)
       | exact bool_dec (by rw [tp_array (by assumption) (by assumption) (by assumption) (by assumption) (by assumption)]; exact ⟨fun k => ⟨by assumption, by omega⟩, fun k => by have := k.2; omega⟩)
     ·
      refine W_seq (W_region (L_r (r_eqls rfl rfl) (L_r (r_ab rfl) (L_nil ?_))))
      refine W_if rfl (fun h37 => ?_) (fun h37 => ?_)
      ·
       refine W_seq (W_region (L_r (r_ms rfl) ?_))
       refine L_call (.plain rfl) rfl rfl (r_call Tryz.func68 rfl rfl rfl (by rfl)) (rightk_walk s _ hs) ?_
       rintro v40 w11 ⟨rfl, c11⟩
       have hz11 := c11.size
       refine L_r (r_mb rfl) ?_
       refine L_caseb (d := 41) rfl (fun h41 => ?_) (fun h41 => ?_)
       ·
        refine L_g (r_ms rfl) ?_
        refine L_call (.yes 2 true rfl rfl) rfl rfl (r_call Tryz.func179 rfl rfl rfl (by rfl)) (deep_walk s _ hs) ?_
        rintro v43 w12 ⟨rfl, c12⟩
        have hz12 := c12.size
        refine L_g (r_lss rfl rfl) (L_r (r_pt rfl rfl) (L_r (r_ab rfl) (L_nil (W_ret ?_))))
        refine ret1 (v := .bool _) rfl rfl ?_
        refine ⟨?_, Ch.au⟩
        (try simp only [decide_eq_true_eq, decide_eq_false_iff_not] at *)
        first
        | contradiction
        | exact bool_dec (he.trans (iff_of_eq (tp_else (by assumption) (by assumption) (by assumption) (by assumption) (by assumption)).symm))
        | exact bool_dec (iff_of_eq (tp_new (by assumption) (by assumption)).symm)
        | exact bool_f (by rw [tp_word (by assumption)]; rintro ⟨k1, k2, k3⟩; first | omega | simp_all)
        | exact dec_b (by rw [tp_word (by assumption)]; unfold wordP noNl; constructor; (intro k; exact ⟨by omega, by assumption, by simpa using k⟩); (rintro ⟨k1, k2, k3⟩; simpa using k3))
        | exact bool_f (by rw [tp_is (by assumption) (by assumption) (by first | exact .inl (by assumption) | exact .inr (by assumption))]; rintro ⟨k1, k2⟩; contradiction)
        | exact dec_b (by rw [tp_is (by assumption) (by assumption) (by first | exact .inl (by assumption) | exact .inr (by assumption))]; constructor; (intro k; exact ⟨by assumption, by simpa using k⟩); (rintro ⟨k1, k2⟩; simpa using k2))
        | exact bool_f (by rw [tp_array (by assumption) (by assumption) (by assumption) (by assumption) (by assumption)]; rintro ⟨k1, k2⟩; contradiction)
        | exact bool_dec (by rw [tp_array (by assumption) (by assumption) (by assumption) (by assumption) (by assumption)]; exact ⟨fun k => ⟨by assumption, by omega⟩, fun k => by have := k.2; omega⟩)
       ·
        refine L_ps (L_ps (L_ps (L_r (r_pf rfl rfl) (L_r (r_ab rfl) (L_nil (W_ret ?_))))))
        refine ret1 (v := .bool _) rfl rfl ?_
        refine ⟨?_, Ch.au⟩
        (try simp only [decide_eq_true_eq, decide_eq_false_iff_not] at *)
        first
        | contradiction
        | exact bool_dec (he.trans (iff_of_eq (tp_else (by assumption) (by assumption) (by assumption) (by assumption) (by assumption)).symm))
        | exact bool_dec (iff_of_eq (tp_new (by assumption) (by assumption)).symm)
        | exact bool_f (by rw [tp_word (by assumption)]; rintro ⟨k1, k2, k3⟩; first | omega | simp_all)
        | exact dec_b (by rw [tp_word (by assumption)]; unfold wordP noNl; constructor; (intro k; exact ⟨by omega, by assumption, by simpa using k⟩); (rintro ⟨k1, k2, k3⟩; simpa using k3))
        | exact bool_f (by rw [tp_is (by assumption) (by assumption) (by first | exact .inl (by assumption) | exact .inr (by assumption))]; rintro ⟨k1, k2⟩; contradiction)
        | exact dec_b (by rw [tp_is (by assumption) (by assumption) (by first | exact .inl (by assumption) | exact .inr (by assumption))]; constructor; (intro k; exact ⟨by assumption, by simpa using k⟩); (rintro ⟨k1, k2⟩; simpa using k2))
        | exact bool_f (by rw [tp_array (by assumption) (by assumption) (by assumption) (by assumption) (by assumption)]; rintro ⟨k1, k2⟩; contradiction)
        | exact bool_dec (by rw [tp_array (by assumption) (by assumption) (by assumption) (by assumption) (by assumption)]; exact ⟨fun k => ⟨by assumption, by omega⟩, fun k => by have := k.2; omega⟩)
      ·
       refine W_skip (W_seq (W_region (L_r (r_ms rfl) ?_)))
       refine L_call (.plain rfl) rfl rfl (r_call Tryz.func180 rfl rfl rfl (by rfl)) (parts_use base s _ hs (hG.nw Ch.au hb)) ?_
       rintro v48 w13 ⟨a, b, e, rfl, he, c13⟩
       have hz13 := c13.size
       refine L_r (r_mv) (L_r (r_ext3_0 rfl) (L_r (r_ext3_1 rfl) (L_r (r_ext3_2 rfl) (L_r (r_as rfl) (L_r (r_as rfl) (L_r (r_ai rfl) (L_nil (W_seq ?_))))))))
       refine W_region (L_r (r_mi rfl) (L_r (r_eql rfl rfl) (L_r (r_ab rfl) (L_nil (W_ret ?_)))))
       refine ret1 (v := .bool _) rfl rfl ?_
       refine ⟨?_, Ch.au⟩
       (try simp only [decide_eq_true_eq, decide_eq_false_iff_not] at *)
       first
       | contradiction
       | exact bool_dec (he.trans (iff_of_eq (tp_else (by assumption) (by assumption) (by assumption) (by assumption) (by assumption)).symm))
       | exact bool_dec (iff_of_eq (tp_new (by assumption) (by assumption)).symm)
       | exact bool_f (by rw [tp_word (by assumption)]; rintro ⟨k1, k2, k3⟩; first | omega | simp_all)
       | exact dec_b (by rw [tp_word (by assumption)]; unfold wordP noNl; constructor; (intro k; exact ⟨by omega, by assumption, by simpa using k⟩); (rintro ⟨k1, k2, k3⟩; simpa using k3))
       | exact bool_f (by rw [tp_is (by assumption) (by assumption) (by first | exact .inl (by assumption) | exact .inr (by assumption))]; rintro ⟨k1, k2⟩; contradiction)
       | exact dec_b (by rw [tp_is (by assumption) (by assumption) (by first | exact .inl (by assumption) | exact .inr (by assumption))]; constructor; (intro k; exact ⟨by assumption, by simpa using k⟩); (rintro ⟨k1, k2⟩; simpa using k2))
       | exact bool_f (by rw [tp_array (by assumption) (by assumption) (by assumption) (by assumption) (by assumption)]; rintro ⟨k1, k2⟩; contradiction)
       | exact bool_dec (by rw [tp_array (by assumption) (by assumption) (by assumption) (by assumption) (by assumption)]; exact ⟨fun k => ⟨by assumption, by omega⟩, fun k => by have := k.2; omega⟩)
end Go.Proofs.YthpknpfhpkkheaaGreatDoor

namespace Go.Proofs.YthpknpfhpkkheaaGreatDoor
open Go Go.RowKit
set_option linter.unusedVariables false
set_option linter.unusedSimpArgs false
set_option maxRecDepth 100000
def checkT (t : Bool × Bool × Bool) (x : Ins) : Int :=
  if t.2.2 = false then 40
  else if (t.1 = false ∧ x.n ≠ 0) ∨ (t.2.1 = false ∧ ¬ x.s = { data := #[] }) ∨ (t.2.1 = true ∧ ¬ textP x.op x.s) then 41 else 0
def checkI (x : Ins) : Int := checkT (takesF x.op) x
theorem icheck_walk (base : Nat) (x : Ins) (w0 : World) (hG : Gv base w0) (hb : base ≤ w0.heap.size) (hs : x.s.size ≤ 1000000000000000) : Does Tryz.prog 131 #[x.v] w0 (fun r w' => r = .int .i64 (checkI x) ∧ Nw w0 w') := by
  have htk := fun W (c : Nw w0 W) => takes_walk base x.op W (hG.nw c hb) (Nat.le_trans hb c.size)
  unfold checkI
  generalize takesF x.op = t at htk ⊢
  obtain ⟨ta, tb, tc⟩ := t
  refine fn_of (n := 40) (args := [x.v]) Tryz.func131 rfl rfl rfl (W_seq (W_region ?_))
  refine L_new (.plain rfl) rfl rfl (r_boxa rfl) (fun w1 b1 hb1 eb1 hs1 c1 => (L_r (r_ai rfl) (L_nil (W_seq (W_region ?_)))))
  refine L_r (r_fieldb Tryz.underlying54 rfl (show _ = some 1 from rfl) rfl rfl (show _ = 0 from rfl)) (L_r (r_lb rfl rfl) ?_)
  refine L_call (.plain rfl) rfl rfl (r_call Tryz.func138 rfl rfl rfl (by rfl)) (htk _ Ch.au) ?_
  rintro v9 w2 ⟨rfl, c2⟩
  have hz2 := c2.size
  refine L_r (r_mv) (L_r (r_ext3_0 rfl) (L_r (r_ext3_1 rfl) (L_r (r_ext3_2 rfl) (L_r (r_ab rfl) (L_r (r_ab rfl) (L_r (r_ab rfl) (L_nil (W_seq ?_))))))))
  refine W_block (W_seq (W_region (L_r (r_mb rfl) (L_r (r_not rfl) (L_r (r_ab rfl) (L_nil ?_))))))
  refine W_bool rfl (fun h13 => ?_) (fun h13 => ?_)
  ·
   refine W_seq (W_region (L_r (r_ai rfl) (L_nil (W_ret ?_))))
   refine ret1 (v := .int _ _) rfl rfl ?_
   refine ⟨?_, Ch.au⟩
   (try simp only [decide_eq_true_eq, decide_eq_false_iff_not, Bool.not_eq_true', Bool.not_eq_false', ne_eq] at *)
   unfold checkT
   first
   | contradiction
   | (rw [if_pos (by simp_all)]; done)
   | (rw [if_neg (by simp_all), if_pos (by simp_all)]; done)
   | (rw [if_neg (by simp_all), if_neg (by simp_all)]; done)
   | (exfalso; simp_all; done)
  ·
   refine W_seq (W_seq (W_region (L_r (r_mb rfl) (L_r (r_not rfl) (L_r (r_mb rfl) ?_)))))
   refine L_caseb (d := 19) rfl (fun h19 => ?_) (fun h19 => ?_)
   ·
    refine L_g (r_fieldb Tryz.underlying54 rfl (show _ = some 1 from rfl) rfl rfl (show _ = 1 from rfl)) ?_
    refine L_g (r_lb rfl rfl) ?_
    refine L_g (r_neq rfl rfl) (L_r (r_pt rfl rfl) (L_r (r_ab rfl) (L_nil ?_)))
    refine W_if rfl (fun h16 => ?_) (fun h16 => ?_)
    ·
     refine W_skip ?_
     refine W_if rfl (fun h16 => ?_) (fun h16 => ?_)
     ·
      refine W_seq (W_region (L_r (r_ai rfl) (L_nil (W_ret ?_))))
      refine ret1 (v := .int _ _) rfl rfl ?_
      refine ⟨?_, Ch.au⟩
      (try simp only [decide_eq_true_eq, decide_eq_false_iff_not, Bool.not_eq_true', Bool.not_eq_false', ne_eq] at *)
      unfold checkT
      first
      | contradiction
      | (rw [if_pos (by simp_all)]; done)
      | (rw [if_neg (by simp_all), if_pos (by simp_all)]; done)
      | (rw [if_neg (by simp_all), if_neg (by simp_all)]; done)
      | (exfalso; simp_all; done)
     ·
      refine W_skip (W_seq (W_region (L_r (r_ai rfl) (L_nil (W_ret ?_)))))
      refine ret1 (v := .int _ _) rfl rfl ?_
      refine ⟨?_, Ch.au⟩
      (try simp only [decide_eq_true_eq, decide_eq_false_iff_not, Bool.not_eq_true', Bool.not_eq_false', ne_eq] at *)
      unfold checkT
      first
      | contradiction
      | (rw [if_pos (by simp_all)]; done)
      | (rw [if_neg (by simp_all), if_pos (by simp_all)]; done)
      | (rw [if_neg (by simp_all), if_neg (by simp_all)]; done)
      | (exfalso; simp_all; done)
    ·
     refine W_seq (W_region (L_r (r_mb rfl) (L_r (r_not rfl) (L_r (r_mb rfl) ?_))))
     refine L_caseb (d := 26) rfl (fun h26 => ?_) (fun h26 => ?_)
     ·
      refine L_g (r_fieldb Tryz.underlying54 rfl (show _ = some 1 from rfl) rfl rfl (show _ = 2 from rfl)) ?_
      refine L_g (r_lb rfl rfl) ?_
      refine L_g (r_neqs rfl rfl) (L_r (r_pt rfl rfl) (L_r (r_ab rfl) (L_nil ?_)))
      refine W_if rfl (fun h16 => ?_) (fun h16 => ?_)
      ·
       refine W_skip ?_
       refine W_if rfl (fun h16 => ?_) (fun h16 => ?_)
       ·
        refine W_seq (W_region (L_r (r_ai rfl) (L_nil (W_ret ?_))))
        refine ret1 (v := .int _ _) rfl rfl ?_
        refine ⟨?_, Ch.au⟩
        (try simp only [decide_eq_true_eq, decide_eq_false_iff_not, Bool.not_eq_true', Bool.not_eq_false', ne_eq] at *)
        unfold checkT
        first
        | contradiction
        | (rw [if_pos (by simp_all)]; done)
        | (rw [if_neg (by simp_all), if_pos (by simp_all)]; done)
        | (rw [if_neg (by simp_all), if_neg (by simp_all)]; done)
        | (exfalso; simp_all; done)
       ·
        refine W_skip (W_seq (W_region (L_r (r_ai rfl) (L_nil (W_ret ?_)))))
        refine ret1 (v := .int _ _) rfl rfl ?_
        refine ⟨?_, Ch.au⟩
        (try simp only [decide_eq_true_eq, decide_eq_false_iff_not, Bool.not_eq_true', Bool.not_eq_false', ne_eq] at *)
        unfold checkT
        first
        | contradiction
        | (rw [if_pos (by simp_all)]; done)
        | (rw [if_neg (by simp_all), if_pos (by simp_all)]; done)
        | (rw [if_neg (by simp_all), if_neg (by simp_all)]; done)
        | (exfalso; simp_all; done)
      ·
       refine W_region (L_r (r_mb rfl) (L_r (r_mb rfl) ?_))
       refine L_caseb (d := 32) rfl (fun h32 => ?_) (fun h32 => ?_)
       ·
        refine L_g (r_fieldb Tryz.underlying54 rfl (show _ = some 1 from rfl) rfl rfl (show _ = 0 from rfl)) ?_
        refine L_g (r_lb rfl rfl) ?_
        refine L_g (r_fieldb Tryz.underlying54 rfl (show _ = some 1 from rfl) rfl rfl (show _ = 2 from rfl)) ?_
        refine L_g (r_lb rfl rfl) ?_
        refine L_call (.yes 1 true rfl rfl) rfl rfl (r_call Tryz.func164 rfl rfl rfl (by rfl)) (optext_walk base x.op x.s _ (hG.nw Ch.au hb) (by omega) hs) ?_
        rintro v37 w3 ⟨rfl, c3⟩
        have hz3 := c3.size
        refine L_g (r_not rfl) (L_r (r_pt rfl rfl) (L_r (r_ab rfl) (L_nil ?_)))
        refine W_bool rfl (fun h16 => ?_) (fun h16 => ?_)
        ·
         refine W_seq (W_region (L_r (r_ai rfl) (L_nil (W_ret ?_))))
         refine ret1 (v := .int _ _) rfl rfl ?_
         refine ⟨?_, Ch.au⟩
         (try simp only [decide_eq_true_eq, decide_eq_false_iff_not, Bool.not_eq_true', Bool.not_eq_false', ne_eq] at *)
         unfold checkT
         first
         | contradiction
         | (rw [if_pos (by simp_all)]; done)
         | (rw [if_neg (by simp_all), if_pos (by simp_all)]; done)
         | (rw [if_neg (by simp_all), if_neg (by simp_all)]; done)
         | (exfalso; simp_all; done)
        ·
         refine W_skip (W_seq (W_region (L_r (r_ai rfl) (L_nil (W_ret ?_)))))
         refine ret1 (v := .int _ _) rfl rfl ?_
         refine ⟨?_, Ch.au⟩
         (try simp only [decide_eq_true_eq, decide_eq_false_iff_not, Bool.not_eq_true', Bool.not_eq_false', ne_eq] at *)
         unfold checkT
         first
         | contradiction
         | (rw [if_pos (by simp_all)]; done)
         | (rw [if_neg (by simp_all), if_pos (by simp_all)]; done)
         | (rw [if_neg (by simp_all), if_neg (by simp_all)]; done)
         | (exfalso; simp_all; done)
       ·
        refine L_ps (L_ps (L_ps (L_ps (L_ps (L_ps (L_r (r_pf rfl rfl) (L_r (r_ab rfl) (L_nil ?_))))))))
        refine W_false rfl (W_skip (W_seq (W_region (L_r (r_ai rfl) (L_nil (W_ret ?_))))))
        refine ret1 (v := .int _ _) rfl rfl ?_
        refine ⟨?_, Ch.au⟩
        (try simp only [decide_eq_true_eq, decide_eq_false_iff_not, Bool.not_eq_true', Bool.not_eq_false', ne_eq] at *)
        unfold checkT
        first
        | contradiction
        | (rw [if_pos (by simp_all)]; done)
        | (rw [if_neg (by simp_all), if_pos (by simp_all)]; done)
        | (rw [if_neg (by simp_all), if_neg (by simp_all)]; done)
        | (exfalso; simp_all; done)
     ·
      refine L_ps (L_ps (L_ps (L_r (r_pf rfl rfl) (L_r (r_ab rfl) (L_nil ?_)))))
      refine W_false rfl (W_region (L_r (r_mb rfl) (L_r (r_mb rfl) ?_)))
      refine L_caseb (d := 32) rfl (fun h32 => ?_) (fun h32 => ?_)
      ·
       refine L_g (r_fieldb Tryz.underlying54 rfl (show _ = some 1 from rfl) rfl rfl (show _ = 0 from rfl)) ?_
       refine L_g (r_lb rfl rfl) ?_
       refine L_g (r_fieldb Tryz.underlying54 rfl (show _ = some 1 from rfl) rfl rfl (show _ = 2 from rfl)) ?_
       refine L_g (r_lb rfl rfl) ?_
       refine L_call (.yes 1 true rfl rfl) rfl rfl (r_call Tryz.func164 rfl rfl rfl (by rfl)) (optext_walk base x.op x.s _ (hG.nw Ch.au hb) (by omega) hs) ?_
       rintro v37 w4 ⟨rfl, c4⟩
       have hz4 := c4.size
       refine L_g (r_not rfl) (L_r (r_pt rfl rfl) (L_r (r_ab rfl) (L_nil ?_)))
       refine W_bool rfl (fun h16 => ?_) (fun h16 => ?_)
       ·
        refine W_seq (W_region (L_r (r_ai rfl) (L_nil (W_ret ?_))))
        refine ret1 (v := .int _ _) rfl rfl ?_
        refine ⟨?_, Ch.au⟩
        (try simp only [decide_eq_true_eq, decide_eq_false_iff_not, Bool.not_eq_true', Bool.not_eq_false', ne_eq] at *)
        unfold checkT
        first
        | contradiction
        | (rw [if_pos (by simp_all)]; done)
        | (rw [if_neg (by simp_all), if_pos (by simp_all)]; done)
        | (rw [if_neg (by simp_all), if_neg (by simp_all)]; done)
        | (exfalso; simp_all; done)
       ·
        refine W_skip (W_seq (W_region (L_r (r_ai rfl) (L_nil (W_ret ?_)))))
        refine ret1 (v := .int _ _) rfl rfl ?_
        refine ⟨?_, Ch.au⟩
        (try simp only [decide_eq_true_eq, decide_eq_false_iff_not, Bool.not_eq_true', Bool.not_eq_false', ne_eq] at *)
        unfold checkT
        first
        | contradiction
        | (rw [if_pos (by simp_all)]; done)
        | (rw [if_neg (by simp_all), if_pos (by simp_all)]; done)
        | (rw [if_neg (by simp_all), if_neg (by simp_all)]; done)
        | (exfalso; simp_all; done)
      ·
       refine L_ps (L_ps (L_ps (L_ps (L_ps (L_ps (L_r (r_pf rfl rfl) (L_r (r_ab rfl) (L_nil ?_))))))))
       refine W_false rfl (W_skip (W_seq (W_region (L_r (r_ai rfl) (L_nil (W_ret ?_))))))
       refine ret1 (v := .int _ _) rfl rfl ?_
       refine ⟨?_, Ch.au⟩
       (try simp only [decide_eq_true_eq, decide_eq_false_iff_not, Bool.not_eq_true', Bool.not_eq_false', ne_eq] at *)
       unfold checkT
       first
       | contradiction
       | (rw [if_pos (by simp_all)]; done)
       | (rw [if_neg (by simp_all), if_pos (by simp_all)]; done)
       | (rw [if_neg (by simp_all), if_neg (by simp_all)]; done)
       | (exfalso; simp_all; done)
   ·
    refine L_ps (L_ps (L_ps (L_r (r_pf rfl rfl) (L_r (r_ab rfl) (L_nil ?_)))))
    refine W_false rfl (W_seq (W_region (L_r (r_mb rfl) (L_r (r_not rfl) (L_r (r_mb rfl) ?_)))))
    refine L_caseb (d := 26) rfl (fun h26 => ?_) (fun h26 => ?_)
    ·
     refine L_g (r_fieldb Tryz.underlying54 rfl (show _ = some 1 from rfl) rfl rfl (show _ = 2 from rfl)) ?_
     refine L_g (r_lb rfl rfl) ?_
     refine L_g (r_neqs rfl rfl) (L_r (r_pt rfl rfl) (L_r (r_ab rfl) (L_nil ?_)))
     refine W_if rfl (fun h16 => ?_) (fun h16 => ?_)
     ·
      refine W_skip ?_
      refine W_if rfl (fun h16 => ?_) (fun h16 => ?_)
      ·
       refine W_seq (W_region (L_r (r_ai rfl) (L_nil (W_ret ?_))))
       refine ret1 (v := .int _ _) rfl rfl ?_
       refine ⟨?_, Ch.au⟩
       (try simp only [decide_eq_true_eq, decide_eq_false_iff_not, Bool.not_eq_true', Bool.not_eq_false', ne_eq] at *)
       unfold checkT
       first
       | contradiction
       | (rw [if_pos (by simp_all)]; done)
       | (rw [if_neg (by simp_all), if_pos (by simp_all)]; done)
       | (rw [if_neg (by simp_all), if_neg (by simp_all)]; done)
       | (exfalso; simp_all; done)
      ·
       refine W_skip (W_seq (W_region (L_r (r_ai rfl) (L_nil (W_ret ?_)))))
       refine ret1 (v := .int _ _) rfl rfl ?_
       refine ⟨?_, Ch.au⟩
       (try simp only [decide_eq_true_eq, decide_eq_false_iff_not, Bool.not_eq_true', Bool.not_eq_false', ne_eq] at *)
       unfold checkT
       first
       | contradiction
       | (rw [if_pos (by simp_all)]; done)
       | (rw [if_neg (by simp_all), if_pos (by simp_all)]; done)
       | (rw [if_neg (by simp_all), if_neg (by simp_all)]; done)
       | (exfalso; simp_all; done)
     ·
      refine W_region (L_r (r_mb rfl) (L_r (r_mb rfl) ?_))
      refine L_caseb (d := 32) rfl (fun h32 => ?_) (fun h32 => ?_)
      ·
       refine L_g (r_fieldb Tryz.underlying54 rfl (show _ = some 1 from rfl) rfl rfl (show _ = 0 from rfl)) ?_
       refine L_g (r_lb rfl rfl) ?_
       refine L_g (r_fieldb Tryz.underlying54 rfl (show _ = some 1 from rfl) rfl rfl (show _ = 2 from rfl)) ?_
       refine L_g (r_lb rfl rfl) ?_
       refine L_call (.yes 1 true rfl rfl) rfl rfl (r_call Tryz.func164 rfl rfl rfl (by rfl)) (optext_walk base x.op x.s _ (hG.nw Ch.au hb) (by omega) hs) ?_
       rintro v37 w5 ⟨rfl, c5⟩
       have hz5 := c5.size
       refine L_g (r_not rfl) (L_r (r_pt rfl rfl) (L_r (r_ab rfl) (L_nil ?_)))
       refine W_bool rfl (fun h16 => ?_) (fun h16 => ?_)
       ·
        refine W_seq (W_region (L_r (r_ai rfl) (L_nil (W_ret ?_))))
        refine ret1 (v := .int _ _) rfl rfl ?_
        refine ⟨?_, Ch.au⟩
        (try simp only [decide_eq_true_eq, decide_eq_false_iff_not, Bool.not_eq_true', Bool.not_eq_false', ne_eq] at *)
        unfold checkT
        first
        | contradiction
        | (rw [if_pos (by simp_all)]; done)
        | (rw [if_neg (by simp_all), if_pos (by simp_all)]; done)
        | (rw [if_neg (by simp_all), if_neg (by simp_all)]; done)
        | (exfalso; simp_all; done)
       ·
        refine W_skip (W_seq (W_region (L_r (r_ai rfl) (L_nil (W_ret ?_)))))
        refine ret1 (v := .int _ _) rfl rfl ?_
        refine ⟨?_, Ch.au⟩
        (try simp only [decide_eq_true_eq, decide_eq_false_iff_not, Bool.not_eq_true', Bool.not_eq_false', ne_eq] at *)
        unfold checkT
        first
        | contradiction
        | (rw [if_pos (by simp_all)]; done)
        | (rw [if_neg (by simp_all), if_pos (by simp_all)]; done)
        | (rw [if_neg (by simp_all), if_neg (by simp_all)]; done)
        | (exfalso; simp_all; done)
      ·
       refine L_ps (L_ps (L_ps (L_ps (L_ps (L_ps (L_r (r_pf rfl rfl) (L_r (r_ab rfl) (L_nil ?_))))))))
       refine W_false rfl (W_skip (W_seq (W_region (L_r (r_ai rfl) (L_nil (W_ret ?_))))))
       refine ret1 (v := .int _ _) rfl rfl ?_
       refine ⟨?_, Ch.au⟩
       (try simp only [decide_eq_true_eq, decide_eq_false_iff_not, Bool.not_eq_true', Bool.not_eq_false', ne_eq] at *)
       unfold checkT
       first
       | contradiction
       | (rw [if_pos (by simp_all)]; done)
       | (rw [if_neg (by simp_all), if_pos (by simp_all)]; done)
       | (rw [if_neg (by simp_all), if_neg (by simp_all)]; done)
       | (exfalso; simp_all; done)
    ·
     refine L_ps (L_ps (L_ps (L_r (r_pf rfl rfl) (L_r (r_ab rfl) (L_nil ?_)))))
     refine W_false rfl (W_region (L_r (r_mb rfl) (L_r (r_mb rfl) ?_)))
     refine L_caseb (d := 32) rfl (fun h32 => ?_) (fun h32 => ?_)
     ·
      refine L_g (r_fieldb Tryz.underlying54 rfl (show _ = some 1 from rfl) rfl rfl (show _ = 0 from rfl)) ?_
      refine L_g (r_lb rfl rfl) ?_
      refine L_g (r_fieldb Tryz.underlying54 rfl (show _ = some 1 from rfl) rfl rfl (show _ = 2 from rfl)) ?_
      refine L_g (r_lb rfl rfl) ?_
      refine L_call (.yes 1 true rfl rfl) rfl rfl (r_call Tryz.func164 rfl rfl rfl (by rfl)) (optext_walk base x.op x.s _ (hG.nw Ch.au hb) (by omega) hs) ?_
      rintro v37 w6 ⟨rfl, c6⟩
      have hz6 := c6.size
      refine L_g (r_not rfl) (L_r (r_pt rfl rfl) (L_r (r_ab rfl) (L_nil ?_)))
      refine W_bool rfl (fun h16 => ?_) (fun h16 => ?_)
      ·
       refine W_seq (W_region (L_r (r_ai rfl) (L_nil (W_ret ?_))))
       refine ret1 (v := .int _ _) rfl rfl ?_
       refine ⟨?_, Ch.au⟩
       (try simp only [decide_eq_true_eq, decide_eq_false_iff_not, Bool.not_eq_true', Bool.not_eq_false', ne_eq] at *)
       unfold checkT
       first
       | contradiction
       | (rw [if_pos (by simp_all)]; done)
       | (rw [if_neg (by simp_all), if_pos (by simp_all)]; done)
       | (rw [if_neg (by simp_all), if_neg (by simp_all)]; done)
       | (exfalso; simp_all; done)
      ·
       refine W_skip (W_seq (W_region (L_r (r_ai rfl) (L_nil (W_ret ?_)))))
       refine ret1 (v := .int _ _) rfl rfl ?_
       refine ⟨?_, Ch.au⟩
       (try simp only [decide_eq_true_eq, decide_eq_false_iff_not, Bool.not_eq_true', Bool.not_eq_false', ne_eq] at *)
       unfold checkT
       first
       | contradiction
       | (rw [if_pos (by simp_all)]; done)
       | (rw [if_neg (by simp_all), if_pos (by simp_all)]; done)
       | (rw [if_neg (by simp_all), if_neg (by simp_all)]; done)
       | (exfalso; simp_all; done)
     ·
      refine L_ps (L_ps (L_ps (L_ps (L_ps (L_ps (L_r (r_pf rfl rfl) (L_r (r_ab rfl) (L_nil ?_))))))))
      refine W_false rfl (W_skip (W_seq (W_region (L_r (r_ai rfl) (L_nil (W_ret ?_))))))
      refine ret1 (v := .int _ _) rfl rfl ?_
      refine ⟨?_, Ch.au⟩
      (try simp only [decide_eq_true_eq, decide_eq_false_iff_not, Bool.not_eq_true', Bool.not_eq_false', ne_eq] at *)
      unfold checkT
      first
      | contradiction
      | (rw [if_pos (by simp_all)]; done)
      | (rw [if_neg (by simp_all), if_pos (by simp_all)]; done)
      | (rw [if_neg (by simp_all), if_neg (by simp_all)]; done)
      | (exfalso; simp_all; done)
def cellsI (L : List Ins) : List Value := L.flatMap insl
theorem cellsI_append (M K : List Ins) : cellsI (M ++ K) = cellsI M ++ cellsI K := by simp [cellsI]
theorem flatN_row {X : Type} (f : X → List Value) (sz : Nat) (hf : ∀ x, (f x).length = sz) : ∀ (z : List X) (i : Nat) (h : i < z.length) (j : Nat) (u : Value), (f z[i])[j]? = some u → (z.flatMap f)[i * sz + j]? = some u
  | x :: z, 0, _, j, u, hj => by
    have hj9 : j < sz := by have := (List.getElem?_eq_some_iff.1 hj).1; simpa [hf] using this
    simp only [List.flatMap_cons, Nat.zero_mul, Nat.zero_add]
    rw [List.getElem?_append_left (by rw [hf]; exact hj9)]
    exact hj
  | x :: z, i + 1, h, j, u, hj => by
    have := flatN_row f sz hf z i (by simpa using h) j u hj
    simp only [List.flatMap_cons]
    rw [List.getElem?_append_right (by rw [hf, Nat.succ_mul]; omega)]
    rw [show (i + 1) * sz + j - (f x).length = i * sz + j by rw [hf, Nat.succ_mul]; omega]
    exact this
theorem cellsI_row (z : List Ins) (i : Nat) (h : i < z.length) (j : Nat) (u : Value) : (insl z[i])[j]? = some u → (cellsI z)[i * 3 + j]? = some u := flatN_row insl 3 (fun _ => rfl) z i h j u
def allI : List Ins → Int
  | [] => 0
  | x :: L => if checkI x ≠ 0 then checkI x else allI L
theorem allI_drop (z : List Ins) (i : Nat) (h : i < z.length) : allI (z.drop i) = if checkI z[i] ≠ 0 then checkI z[i] else allI (z.drop (i + 1)) := by
  rw [List.drop_eq_getElem_cons h]; rfl
theorem all_ins_walk (base : Nat) (v : Value) (z : List Ins) (w0 : World) (hG : Gv base w0) (hb : base ≤ w0.heap.size) (hv : Sl w0 v 3 z.length (cellsI z)) (hl : z.length ≤ 1000000000000000) (hs : ∀ x ∈ z, x.s.size ≤ 1000000000000000) : Does Tryz.prog 147 #[v] w0 (fun r w' => r = .int .i64 (allI z) ∧ Nw w0 w') := by
  refine fn_of (n := 18) (args := [v]) Tryz.func147 rfl rfl rfl (W_seq (W_region (L_r (r_ai rfl) (L_nil (W_seq (W_seq (W_region (L_r (r_mv) ?_))))))))
  refine L_r (r_lenSl Tryz.underlying40 (by conv => lhs; whnf) Sl.au) (L_r (r_mi rfl) (L_nil (W_block ?_)))
  refine W_loopF [6, 7] (fun mz_ f W => ∃ (i : Nat), f 8 = .int .i64 i ∧ (i ≤ z.length ∧ allI z = allI (z.drop i) ∧ Nw w0 W) ∧ mz_ = z.length - i) ?_ ?_
  ·
   refine ⟨_, 0, rfl, ?_, rfl⟩
   exact ⟨by omega, rfl, Ch.au⟩
  rintro m0 g0 w1 ⟨i, hf8, hR0, rfl⟩
  refine W_as 8 hf8 rfl ?_
  clear hf8
  obtain ⟨hi, ha, hnw⟩ := hR0
  have hz := hnw.size
  refine W_seq (W_region (L_r (r_lss rfl rfl) (L_nil (W_seq ?_))))
  refine W_if rfl (fun h9 => ?_) (fun h9 => ?_)
  ·
   have hil : i < z.length := by omega
   have hrow := cellsI_row z i hil
   have hsx := hs z[i] (List.getElem_mem _)
   obtain ⟨x, hx⟩ : ∃ x, x = z[i] := ⟨_, rfl⟩
   rw [← hx] at hrow hsx
   refine W_skip (W_seq (W_block (W_seq (W_region ?_))))
   refine L_r (r_ix Tryz.underlying40 (show _ = some 3 from rfl) (by conv => lhs; whnf) rfl Sl.au) ?_
   refine L_r (r_loadSlrow (us := [.string x.op, .int .i64 x.n, .string x.s]) Tryz.underlying54 rfl rfl rfl rfl Sl.au (by exact hrow)) ?_
   refine L_new (.plain rfl) rfl rfl (r_alloca rfl) (fun w2 b4 hb4 eb2 hs2 c2 => ?_)
   refine L_storerow (.plain rfl) rfl rfl Bk.au (by first | rfl | (simp; done) | assumption) (by first | rfl | assumption) (by first | rfl | (simp [Value.oneCell']; done) | assumption) (fun w3 hb3 hs3 c3 => (L_nil (W_seq (W_region ?_))))
   refine L_r (r_loadrow Tryz.underlying54 rfl rfl Bk.au (by first | rfl | assumption)) ?_
   refine L_call (.plain rfl) rfl rfl (r_call Tryz.func131 rfl rfl rfl (by rfl)) (icheck_walk base x _ (hG.nw Ch.au hb) (by omega) hsx) ?_
   rintro v13 w4 ⟨rfl, c4⟩
   have hz4 := c4.size
   refine L_r (r_ai rfl) (L_nil (W_seq (W_region (L_r (r_mi rfl) (L_r (r_neq rfl rfl) (L_nil ?_))))))
   refine W_if rfl (fun h15 => ?_) (fun h15 => ?_)
   ·
    refine W_seq (W_region (L_r (r_mi rfl) (L_r (r_ai rfl) (L_nil (W_ret ?_)))))
    refine ret1 (v := .int _ _) rfl rfl ?_
    refine ⟨?_, Ch.au⟩
    first
    | (have hd := allI_drop z i hil
       rw [← hx, if_pos h15] at hd
       rw [ha, hd])
    | (rw [ha, List.drop_eq_nil_of_le (by omega)]; rfl)
   ·
    refine W_skip (W_region ?_)
    refine L_r (r_add rfl rfl (by first | exact wr_i64 (by omega) | rfl)) (L_r (r_mi rfl) (L_nil ?_))
    refine ⟨⟨fx2, fx2, trivial⟩, _, ?_, i + 1, rfl, ?_, rfl⟩
    · omega
    have hd := allI_drop z i hil
    rw [← hx, if_neg (by simpa using h15)] at hd
    exact ⟨by omega, ha.trans hd, Ch.au⟩
  ·
   refine W_exit ?_
   repeat (first | refine blk_hit ?_ | refine blk_miss rfl ?_)
   refine W_seq (W_region (L_r (r_ai rfl) (L_nil (W_ret ?_))))
   refine ret1 (v := .int _ _) rfl rfl ?_
   refine ⟨?_, Ch.au⟩
   first
   | (have hd := allI_drop z i hil
      rw [← hx, if_pos h15] at hd
      rw [ha, hd])
   | (rw [ha, List.drop_eq_nil_of_le (by omega)]; rfl)
end Go.Proofs.YthpknpfhpkkheaaGreatDoor

namespace Go.Proofs.YthpknpfhpkkheaaGreatDoor
open Go Go.RowKit
set_option linter.unusedVariables false
set_option linter.unusedSimpArgs false
set_option maxRecDepth 100000
structure CF where
  name : ByteArray
  kind : ByteArray
  tr : Bool
structure Cat where
  fr : Int
  tt : Int
  aa : Int
  cls : ByteArray
structure Mth where
  name : ByteArray
  params : List ByteArray
  result : ByteArray
  abs : Bool
  locals : Int
  code : List Ins
  cats : List Cat
structure Cls where
  name : ByteArray
  super : ByteArray
  like : List ByteArray
  ifc : Bool
  abs : Bool
  fin : Bool
  fields : List CF
  ms : List Mth
/-- A method, and where its lists lie. -/
structure MM where
  m : Mth
  vp : Value
  vc : Value
  vk : Value
/-- A class, and where its lists lie. -/
structure CC where
  p : Cls
  vl : Value
  vf : Value
  vm : Value
  q : List MM
abbrev cfl (x : CF) : List Value := [.string x.name, .string x.kind, .bool x.tr]
abbrev ctl (x : Cat) : List Value := [.int .i64 x.fr, .int .i64 x.tt, .int .i64 x.aa, .string x.cls]
abbrev mml (x : MM) : List Value := [.string x.m.name, x.vp, .string x.m.result, .bool x.m.abs, .int .i64 x.m.locals, x.vc, x.vk]
abbrev ccl (x : CC) : List Value := [.string x.p.name, .string x.p.super, x.vl, .bool x.p.ifc, .bool x.p.abs, .bool x.p.fin, x.vf, x.vm]
abbrev CF.v (x : CF) : Value := .agg #[.string x.name, .string x.kind, .bool x.tr]
abbrev Cat.v (x : Cat) : Value := .agg #[.int .i64 x.fr, .int .i64 x.tt, .int .i64 x.aa, .string x.cls]
abbrev MM.v (x : MM) : Value := .agg #[.string x.m.name, x.vp, .string x.m.result, .bool x.m.abs, .int .i64 x.m.locals, x.vc, x.vk]
abbrev CC.v (x : CC) : Value := .agg #[.string x.p.name, .string x.p.super, x.vl, .bool x.p.ifc, .bool x.p.abs, .bool x.p.fin, x.vf, x.vm]
def cellsCF (l : List CF) : List Value := l.flatMap cfl
def cellsCK (l : List Cat) : List Value := l.flatMap ctl
def cellsCM (l : List MM) : List Value := l.flatMap mml
def cellsCC (l : List CC) : List Value := l.flatMap ccl
theorem cellsCF_row (z : List CF) (i : Nat) (h : i < z.length) (j : Nat) (u : Value) : (cfl z[i])[j]? = some u → (cellsCF z)[i * 3 + j]? = some u := flatN_row cfl 3 (fun _ => rfl) z i h j u
theorem cellsCK_row (z : List Cat) (i : Nat) (h : i < z.length) (j : Nat) (u : Value) : (ctl z[i])[j]? = some u → (cellsCK z)[i * 4 + j]? = some u := flatN_row ctl 4 (fun _ => rfl) z i h j u
theorem cellsCM_row (z : List MM) (i : Nat) (h : i < z.length) (j : Nat) (u : Value) : (mml z[i])[j]? = some u → (cellsCM z)[i * 7 + j]? = some u := flatN_row mml 7 (fun _ => rfl) z i h j u
theorem cellsCC_row (z : List CC) (i : Nat) (h : i < z.length) (j : Nat) (u : Value) : (ccl z[i])[j]? = some u → (cellsCC z)[i * 8 + j]? = some u := flatN_row ccl 8 (fun _ => rfl) z i h j u
theorem cellsCF_append (M K : List CF) : cellsCF (M ++ K) = cellsCF M ++ cellsCF K := by simp [cellsCF]
theorem cellsCK_append (M K : List Cat) : cellsCK (M ++ K) = cellsCK M ++ cellsCK K := by simp [cellsCK]
theorem cellsCM_append (M K : List MM) : cellsCM (M ++ K) = cellsCM M ++ cellsCM K := by simp [cellsCM]
theorem cellsCC_append (M K : List CC) : cellsCC (M ++ K) = cellsCC M ++ cellsCC K := by simp [cellsCC]
/-- A method's lists lie where its values say. -/
structure MM.ok (w : World) (x : MM) : Prop where
  p : Sl w x.vp 1 x.m.params.length (scells x.m.params)
  c : Sl w x.vc 3 x.m.code.length (cellsI x.m.code)
  k : Sl w x.vk 4 x.m.cats.length (cellsCK x.m.cats)
structure CC.ok (w : World) (x : CC) : Prop where
  l : Sl w x.vl 1 x.p.like.length (scells x.p.like)
  f : Sl w x.vf 3 x.p.fields.length (cellsCF x.p.fields)
  m : Sl w x.vm 7 x.q.length (cellsCM x.q)
  e : x.q.map MM.m = x.p.ms
  ms : ∀ y ∈ x.q, y.ok w
theorem MM.ok.nw {w w' : World} {x : MM} (h : x.ok w) (c : Nw w w') : x.ok w' := ⟨h.p.nw c, h.c.nw c, h.k.nw c⟩
theorem CC.ok.nw {w w' : World} {x : CC} (h : x.ok w) (c : Nw w w') : x.ok w' := ⟨h.l.nw c, h.f.nw c, h.m.nw c, h.e, fun y hy => (h.ms y hy).nw c⟩
end Go.Proofs.YthpknpfhpkkheaaGreatDoor
