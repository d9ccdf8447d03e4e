/- Parts of the proof (Scr3, ShelfW, Scr4, Scr5, RefS1, RefS2, RefS3, Scr6). -/
import Derived.Test.YtgmeojpekdekeaaGreatDoorMSb
import Derived.Lib.AppendIntMem
import Derived.Lib.ItoaMem
namespace Go.Proofs.YtgmeojpekdekeaaGreatDoor
open Go Go.RowKit
set_option linter.unusedVariables false
set_option linter.unusedSimpArgs false
set_option maxRecDepth 100000
abbrev entr (e : ByteArray × ByteArray) : List Value := [.string e.1, .string e.2]
theorem entT_len : entT.length = 11 := rfl
theorem entL_row (T : List (ByteArray × ByteArray)) (i : Nat) (h : i < T.length) (j : Nat) (u : Value) : (entr T[i])[j]? = some u → (T.flatMap entr)[i * 2 + j]? = some u := flatD_row entr 2 (fun _ => rfl) T i h j u
theorem scell_blk {w w' : World} {g i : Nat} (h : w'.heap[g]? = w.heap[g]?) : w'.cell? ⟨g, i, none⟩ = w.cell? ⟨g, i, none⟩ := by
  simp only [World.cell?, h]
/-- The variables are as they are laid, and lie below. -/
structure Sv (base : Nat) (w : World) : Prop where
  pow : ∃ t fr, w.heap[2]? = some (.cells (Lib.pow10Tab.map fun z => Value.int .u64 z).toArray t fr)
  syn : ∃ ev, w.cell? ⟨3, 0, none⟩ = some ev ∧ (ev = .nilIface ∨ ∃ te pe, ev = .iface te pe)
  rng : ∃ ev, w.cell? ⟨4, 0, none⟩ = some ev ∧ (ev = .nilIface ∨ ∃ te pe, ev = .iface te pe)
  ent : ∀ (i : Nat) (u : Value), (entT.flatMap entr)[i]? = some u → w.cell? ⟨0, i, none⟩ = some u
  bent : ∃ cs t fr, w.heap[0]? = some (.cells cs t fr)
  mx : ∃ m, w.cell? ⟨1, 0, none⟩ = some (.int .i64 m)
  low : 9 ≤ base
theorem Sv.ch {base : Nat} {w w' : World} {T : Nat → Prop} (h : Sv base w) (c : Ch T w w') (hb : base ≤ w.heap.size) (hT : ∀ i, T i → base ≤ i) : Sv base w' := by
  have hl := h.low
  have k : ∀ g, g < 9 → w'.heap[g]? = w.heap[g]? := fun g hg => c.blk g (by omega) (fun x => by have := hT _ x; omega)
  obtain ⟨t, fr, h1⟩ := h.pow
  obtain ⟨a, ha, ha2⟩ := h.syn
  obtain ⟨b, hb1, hb2⟩ := h.rng
  obtain ⟨cs, t2, fr2, h2⟩ := h.bent
  obtain ⟨m, hm⟩ := h.mx
  exact ⟨⟨t, fr, (k _ (by decide)).trans h1⟩, ⟨a, (scell_blk (k _ (by decide))).trans ha, ha2⟩, ⟨b, (scell_blk (k _ (by decide))).trans hb1, hb2⟩, fun i u hu => (scell_blk (k _ (by decide))).trans (h.ent i u hu), ⟨cs, t2, fr2, (k _ (by decide)).trans h2⟩, ⟨m, (scell_blk (k _ (by decide))).trans hm⟩, hl⟩
theorem Sv.nw {base : Nat} {w w' : World} (h : Sv base w) (c : Nw w w') (hb : base ≤ w.heap.size) : Sv base w' := h.ch c hb fun _ x => x.elim
theorem Sv.sl {base : Nat} {w : World} (h : Sv base w) : Sl w (.slice (some ⟨0, 0, none⟩) 11 11) 2 entT.length (entT.flatMap entr) := by
  obtain ⟨cs, t, fr, hb⟩ := h.bent
  refine ⟨by rfl, .inr ⟨_, 0, 11, cs, t, rfl, Nat.le_refl _, ⟨fr, hb⟩, fun i x hx => ?_⟩⟩
  have h1 := h.ent i x hx
  rw [cell_of_row w _ i cs t fr hb] at h1
  rw [Nat.zero_add]; exact h1
theorem spow_name : Tryz.prog.globalNamed "internal/strconv.uint64pow10" = some 2 := by kernel_rfl
theorem Sv.ptab {base : Nat} {w : World} (h : Sv base w) : Lib.TabIs Tryz.prog w "internal/strconv.uint64pow10" .u64 Lib.pow10Tab := by
  obtain ⟨t, fr, hb⟩ := h.pow
  unfold Lib.TabIs World.var?
  rw [spow_name, Option.bind_some, hb]
/-! ### the library's functions -/
theorem snw_grow (w : World) (os : Array Obj) : Nw w (Sort.grow w os) := ⟨rfl, rfl, rfl, by simp [Sort.grow], fun i hi _ => by simp only [Sort.grow]; rw [Array.getElem?_append_left hi]⟩
theorem sfmt_use (base : Nat) (n : Int) (w : World) (hn : -9223372036854775808 ≤ n ∧ n ≤ 9223372036854775807) (hS : Sv base w) : Does Tryz.prog 79 #[.int .i64 n, .int .i64 10] w (fun r w' => r = .string (sb (Lib.itoa n)) ∧ Nw w w') :=
  Calls.mono (Any.strconv_FormatInt_10 Tryz.laysFormat n hn.1 hn.2 w hS.ptab) fun _ _ ⟨e, k, os, b⟩ => ⟨_, e, rfl, by subst b; exact (nw_drewN w k).trans (snw_grow _ _)⟩
theorem sitoai_use (base : Nat) (n : Int) (w : World) (hn : -9223372036854775808 ≤ n ∧ n ≤ 9223372036854775807) (hS : Sv base w) : Does Tryz.prog 77 #[.int .i64 n] w (fun r w' => r = .string (sb (Lib.itoa n)) ∧ Nw w w') :=
  Calls.mono (Any.internal_strconv_Itoa Tryz.laysItoaI n hn.1 hn.2 w hS.ptab) fun _ _ ⟨e, k, os, b⟩ => ⟨_, e, rfl, by subst b; exact (nw_drewN w k).trans (snw_grow _ _)⟩
theorem sitoa_walk (base : Nat) (n : Int) (w0 : World) (hn : -9223372036854775808 ≤ n ∧ n ≤ 9223372036854775807) (hS : Sv base w0) (hb : base ≤ w0.heap.size) : Does Tryz.prog 39 #[.int .i64 n] w0 (fun r w' => r = .string (sb (Lib.itoa n)) ∧ Nw w0 w') := by
  refine fn_of (n := 5) (args := [.int .i64 n]) Tryz.func39 rfl rfl rfl (W_seq (W_region (L_r (r_as rfl) (L_nil (W_seq (W_region (L_r (r_mi rfl) ?_)))))))
  refine L_call (.plain rfl) rfl rfl (r_call Tryz.func77 rfl rfl rfl (by rfl)) (sitoai_use base n _ hn (hS.nw Ch.au hb)) ?_
  rintro v4 w1 ⟨rfl, c1⟩
  have hz1 := c1.size
  refine L_r (r_as rfl) (L_nil (W_ret ?_))
  refine ret1 (v := .string _) rfl rfl ?_
  exact ⟨rfl, Ch.au⟩
theorem sbool_use (b : Bool) (w : World) : Does Tryz.prog 80 #[.bool b] w (fun r w' => r = .string (sb (if b then trueB else falseB)) ∧ Nw w w') :=
  Calls.mono (Any.strconv_FormatBool Tryz.laysFBool b w) fun _ _ ⟨e, k⟩ => ⟨_, e, by cases b <;> rfl, k ▸ Ch.refl _⟩
theorem satoi_use (base : Nat) (s : ByteArray) (w : World) (hs : s.size ≤ 1000000) (hE : Sv base w) : Does Tryz.prog 72 #[.string s] w (fun r w' => ∃ e, r = .tuple #[.int .i64 (atoiF (bs s)), e] ∧ Nw w w') := by
  obtain ⟨e1, h1, k1⟩ := hE.syn
  obtain ⟨e2, h2, k2⟩ := hE.rng
  have hd : Lib.atoiAll (bs s) = Lib.atoiAll s.data.toList := rfl
  unfold atoiF
  cases h : Lib.atoiAll s.data.toList
  ·
   rename_i v
   rw [hd, h]
   refine Calls.mono (Any.strconv_Atoi_ok Tryz.laysAtoi s (by omega) v h w) ?_
   rintro _ w' ⟨rfl, hw⟩
   refine ⟨_, rfl, _, rfl, ?_⟩
   rcases hw with rfl | ⟨t, rfl⟩
   · exact Ch.refl _
   · exact Ch.of_below (Lib.bytesWorld_below _ _ _)
  ·
   rw [hd, h]
   refine Calls.mono (Any.strconv_Atoi_syntax Tryz.laysAtoi s (by omega) h e1 w h1 k1) ?_
   rintro _ w' ⟨N, rfl, _, _, hw⟩
   exact ⟨_, rfl, _, rfl, Ch.of_below hw⟩
  ·
   rw [hd, h]
   refine Calls.mono (Any.strconv_Atoi_range Tryz.laysAtoi s (by omega) h e2 w h2 k2) ?_
   rintro _ w' ⟨N, rfl, _, _, hw⟩
   exact ⟨_, rfl, _, rfl, Ch.of_below hw⟩
theorem sparse_use (base : Nat) (s : ByteArray) (w : World) (hs : s.size ≤ 1000000) (hE : Sv base w) : Does Tryz.prog 90 #[.string s, .int .i64 10, .int .i64 64] w (fun r w' => ∃ e, r = .tuple #[.int .i64 (intF (bs s)), e] ∧ Nw w w') := by
  obtain ⟨e1, h1, k1⟩ := hE.syn
  obtain ⟨e2, h2, k2⟩ := hE.rng
  have hd : Lib.parseIntB 64 (bs s) = Lib.parseIntB 64 s.data.toList := rfl
  unfold intF
  cases h : Lib.parseIntB 64 s.data.toList
  ·
   rename_i v
   rw [hd, h]
   refine Calls.mono (Any.strconv_ParseInt_10_at64_ok Tryz.laysParse s (by omega) v h w) ?_
   rintro _ w' ⟨rfl, hw⟩
   refine ⟨_, rfl, _, rfl, ?_⟩
   rcases hw with rfl | ⟨t, rfl⟩
   · exact Ch.refl _
   · exact Ch.of_below (Lib.bytesWorld_below _ _ _)
  ·
   rw [hd, h]
   refine Calls.mono (Any.strconv_ParseInt_10_at64_syntax Tryz.laysParse s (by omega) h e1 w h1 k1) ?_
   rintro _ w' ⟨N, rfl, _, _, hw⟩
   exact ⟨_, rfl, _, rfl, Ch.of_below hw⟩
  ·
   rw [hd, h]
   refine Calls.mono (Any.strconv_ParseInt_10_at64_range Tryz.laysParse s (by omega) h e2 w h2 k2) ?_
   rintro _ w' ⟨N, rfl, _, _, hw⟩
   exact ⟨_, rfl, _, rfl, Ch.of_below hw⟩
theorem sparseu_use (base : Nat) (s : ByteArray) (w : World) (hs : s.size ≤ 1000000) (hE : Sv base w) : Does Tryz.prog 73 #[.string s, .int .i64 10, .int .i64 64] w (fun r w' => ∃ e, r = .tuple #[.int .u64 (uintF (bs s) : Nat), e] ∧ Nw w w') := by
  obtain ⟨e1, h1, k1⟩ := hE.syn
  obtain ⟨e2, h2, k2⟩ := hE.rng
  have hd : Lib.parseUintB 64 (bs s) = Lib.parseUintB 64 s.data.toList := rfl
  unfold uintF
  cases h : Lib.parseUintB 64 s.data.toList
  ·
   rename_i v
   rw [hd, h]
   refine Calls.mono (Any.strconv_ParseUint_10_at64_ok Tryz.laysPuint s (by omega) v h w) ?_
   rintro _ w' ⟨rfl, hw⟩
   refine ⟨_, rfl, _, rfl, ?_⟩
   rcases hw with rfl | rfl
   · exact Ch.refl _
   · exact Ch.of_below (Lib.bytesWorld_below _ _ _)
  ·
   rw [hd, h]
   refine Calls.mono (Any.strconv_ParseUint_10_at64_syntax Tryz.laysPuint s (by omega) h e1 w h1 k1) ?_
   rintro _ w' ⟨N, rfl, _, _, hw⟩
   exact ⟨_, rfl, _, rfl, Ch.of_below hw⟩
  ·
   rw [hd, h]
   refine Calls.mono (Any.strconv_ParseUint_10_at64_range Tryz.laysPuint s (by omega) h e2 w h2 k2) ?_
   rintro _ w' ⟨N, rfl, _, _, hw⟩
   exact ⟨_, rfl, _, rfl, Ch.of_below hw⟩
theorem shp_use (s p : ByteArray) (w : World) : Does Tryz.prog 38 #[.string s, .string p] w (fun r w' => r = .bool (Lib.hasPrefix (bs s) (bs p)) ∧ w' = w) :=
  Calls.mono (Any.strings_HasPrefix Tryz.laysHasPrefix s p w) fun _ _ ⟨e, b⟩ => ⟨_, e, rfl, b⟩
theorem has_index (l : List UInt8) (c : UInt8) : (0 ≤ Lib.indexByte l c) ↔ c ∈ l := by
  constructor
  ·
   intro h
   obtain ⟨o, ho⟩ : ∃ o : Nat, Lib.indexByte l c = o := ⟨(Lib.indexByte l c).toNat, by omega⟩
   exact List.mem_of_getElem? (Lib.indexByte_some ho).1
  ·
   intro h
   rcases cut_cases c l with ⟨p, t, e, hp, _⟩ | ⟨hn, _⟩
   ·
    have h2 := index_hit (t := t) hp
    rw [Lib.index_one, ← e] at h2
    omega
   · exact absurd rfl (hn c h)
theorem scont_use (s : ByteArray) (c : UInt8) (w : World) : Does Tryz.prog 24 #[.string s, .string { data := #[c] }] w (fun r w' => r = .bool (decide (c ∈ bs s)) ∧ w' = w) :=
  Calls.mono (Any.strings_Contains_one { Tryz.laysContains with } s c w) fun _ _ ⟨e, b⟩ => ⟨_, e, congrArg Value.bool (decide_eq_decide.2 (has_index _ _)), b⟩
/-! ### what a kind has -/
def idxE (s : ByteArray) : List (ByteArray × ByteArray) → Nat → Option Nat
  | [], _ => none
  | o :: L, n => if o.1 = s then some n else idxE s L (n + 1)
def zOe : Option Nat → Int
  | some n => n
  | none => -1
theorem idxE_at {s : ByteArray} : ∀ (L : List (ByteArray × ByteArray)) (n i : Nat) (h : i < L.length), L[i].1 = s → (∀ j (hj : j < L.length), j < i → L[j].1 ≠ s) → idxE s L n = some (n + i)
  | o :: L, n, 0, _, h1, _ => by unfold idxE; exact if_pos h1
  | o :: L, n, i + 1, h, h1, h2 => by
    unfold idxE
    have h0 : o.1 ≠ s := h2 0 (by simp) (by omega)
    rw [if_neg h0, idxE_at L (n + 1) i (by simpa using h) h1 (fun j hj hji => h2 (j + 1) (by simpa using hj) (by omega))]
    congr 1; omega
theorem idxE_no {s : ByteArray} : ∀ (L : List (ByteArray × ByteArray)) (n : Nat), (∀ j (hj : j < L.length), L[j].1 ≠ s) → idxE s L n = none
  | [], _, _ => rfl
  | o :: L, n, h => by
    unfold idxE
    have h0 : o.1 ≠ s := h 0 (by simp)
    rw [if_neg h0]
    exact idxE_no L (n + 1) fun j hj => h (j + 1) (by simpa using hj)
theorem idxE_find {s : ByteArray} : ∀ (L : List (ByteArray × ByteArray)) (n : Nat), (idxE s L n = none ∧ L.find? (fun e => decide (e.1 = s)) = none) ∨ (∃ i, ∃ h : i < L.length, idxE s L n = some (n + i) ∧ L.find? (fun e => decide (e.1 = s)) = some L[i])
  | [], _ => .inl ⟨rfl, rfl⟩
  | o :: L, n => by
    by_cases h : o.1 = s
    · exact .inr ⟨0, by simp, by unfold idxE; rw [if_pos h]; rfl, by rw [List.find?_cons_of_pos (by simpa using h)]; rfl⟩
    ·
     rcases idxE_find (s := s) L (n + 1) with ⟨h1, h2⟩ | ⟨i, hi, h1, h2⟩
     · exact .inl ⟨by unfold idxE; rw [if_neg h]; exact h1, by rw [List.find?_cons_of_neg (by simpa using h)]; exact h2⟩
     · exact .inr ⟨i + 1, by simpa using hi, by unfold idxE; rw [if_neg h, h1]; congr 1; omega, by rw [List.find?_cons_of_neg (by simpa using h)]; exact h2⟩
theorem sfindc_walk (o : ByteArray × ByteArray) (s : ByteArray) (q : Nat) (w0 : World) (hq : Bk w0 q #[.string s] 9) : Does Tryz.prog 48 #[.agg #[.string o.1, .string o.2], .pointer (some ⟨q, 0, none⟩)] w0 (fun r w' => r = .bool (decide (o.1 = s)) ∧ Nw w0 w') := by
  refine fn_of (n := 8) (args := [.agg #[.string o.1, .string o.2], .pointer (some ⟨q, 0, none⟩)]) Tryz.func48 rfl rfl rfl (W_seq (W_region ?_))
  refine L_new (.plain rfl) rfl rfl (r_boxa rfl) (fun w1 b2 hb2 eb1 hs1 c1 => (L_r (r_ab rfl) (L_nil (W_seq (W_region ?_)))))
  refine L_r (r_fieldb Tryz.underlying69 rfl (show _ = some 1 from rfl) rfl rfl (show _ = 0 from rfl)) (L_r (r_lb rfl rfl) (L_r (r_lb rfl rfl) (L_r (r_eqls rfl rfl) (L_r (r_ab rfl) (L_nil (W_ret ?_))))))
  refine ret1 (v := .bool _) rfl rfl ?_
  exact ⟨rfl, Ch.au⟩
theorem sixf_walk (T : List (ByteArray × ByteArray)) (v : Value) (s : ByteArray) (q : Nat) (w0 : World) (hv : Sl w0 v 2 T.length (T.flatMap entr)) (hl : T.length ≤ 1000) (hq : Bk w0 q #[.string s] 9) : Does Tryz.prog 47 #[v, .func (.func 48) #[] #[.pointer (some ⟨q, 0, none⟩)]] w0 (fun r w' => r = .int .i64 (zOe (idxE s T 0)) ∧ Nw w0 w') := by
  refine fn_of (n := 19) (args := [v, .func (.func 48) #[] #[.pointer (some ⟨q, 0, none⟩)]]) Tryz.func47 rfl rfl rfl (W_seq (W_region (L_r (r_ai rfl) (L_nil (W_seq (W_seq (W_region (L_r (r_mv) ?_))))))))
  refine L_r (r_lenSl Tryz.underlying67 (by conv => lhs; whnf) Sl.au) (L_r (r_mi rfl) (L_nil (W_block ?_)))
  refine W_loopF [0, 1, 7] (fun mz_ f W => ∃ (i : Nat), f 8 = .int .i64 i ∧ (i ≤ T.length ∧ (∀ j (hj : j < T.length), j < i → T[j].1 ≠ s) ∧ Nw w0 W) ∧ mz_ = T.length - i) ?_ ?_
  ·
   refine ⟨_, 0, rfl, ?_, rfl⟩
   exact ⟨by omega, fun j hj hji => absurd hji (by omega), Ch.au⟩
  rintro m0 g0 w1 ⟨i, hf8, hR0, rfl⟩
  refine W_as 8 hf8 rfl ?_
  clear hf8
  obtain ⟨hi, hn, hnw⟩ := hR0
  have hz := hnw.size
  refine W_seq (W_region (L_r (r_lss rfl rfl) (L_nil (W_seq ?_))))
  refine W_if rfl (fun h9 => ?_) (fun h9 => ?_)
  ·
   have hil : i < T.length := by omega
   have hrow := fun j u => entL_row T i hil j u
   obtain ⟨o, ho⟩ : ∃ o, o = T[i] := ⟨_, rfl⟩
   rw [← ho] at hrow
   refine W_skip (W_seq (W_block (W_seq (W_region (L_r (r_mi rfl) (L_r (r_ai rfl) (L_nil (W_seq ?_))))))))
   refine W_region (L_r (r_mv) (L_r (r_mv) (L_r (r_mi rfl) ?_)))
   refine L_r (r_ix Tryz.underlying67 (show _ = some 2 from rfl) (by conv => lhs; whnf) rfl Sl.au) ?_
   refine L_r (r_loadSlrow (us := [.string o.1, .string o.2]) Tryz.underlying69 rfl rfl rfl rfl Sl.au (by exact hrow)) ?_
   refine L_call (.plain rfl) rfl rfl (r_call Tryz.func48 rfl rfl rfl (by rfl)) (sfindc_walk o s q _ Bk.au) ?_
   rintro v16 w2 ⟨rfl, c2⟩
   have hz2 := c2.size
   refine L_nil ?_
   refine W_bool rfl (fun h16 => ?_) (fun h16 => ?_)
   ·
    refine W_seq (W_region (L_r (r_mi rfl) (L_r (r_ai rfl) (L_nil (W_ret ?_)))))
    refine ret1 (v := .int _ _) rfl rfl ?_
    refine ⟨?_, Ch.au⟩
    first
    | (have := idxE_at (s := s) T 0 i hil (by rw [← ho]; simpa using h16) hn
       rw [this, Nat.zero_add]; rfl)
    | (rw [idxE_no T 0 fun j hj => hn j hj (by omega)]; rfl)
   ·
    refine W_skip (W_region ?_)
    refine L_r (r_add rfl rfl (by first | exact wr_i64 (by omega) | rfl)) (L_r (r_mi rfl) (L_nil ?_))
    refine ⟨⟨fx2, fx2, fx2, trivial⟩, _, ?_, i + 1, rfl, ?_, rfl⟩
    · omega
    refine ⟨by omega, fun j hj hji => ?_, Ch.au⟩
    rcases Nat.lt_or_ge j i with h | h
    · exact hn j hj h
    ·
     have e : j = i := by omega
     subst e
     rw [← ho]; simpa using h16
  ·
   refine W_exit ?_
   repeat (first | refine blk_hit ?_ | refine blk_miss rfl ?_)
   refine W_seq (W_region (L_r (r_ai rfl) (L_nil (W_ret ?_))))
   refine ret1 (v := .int _ _) rfl rfl ?_
   refine ⟨?_, Ch.au⟩
   first
   | (have := idxE_at (s := s) T 0 i hil (by rw [← ho]; simpa using h16) hn
      rw [this, Nat.zero_add]; rfl)
   | (rw [idxE_no T 0 fun j hj => hn j hj (by omega)]; rfl)
theorem sfind_walk (base : Nat) (s : ByteArray) (w0 : World) (hS : Sv base w0) (hb : base ≤ w0.heap.size) : Does Tryz.prog 18 #[.string s] w0 (fun r w' => r = .tuple #[.string (hasF s), .bool (hasO s).isSome] ∧ Nw w0 w') := by
  have hfi := idxE_find (s := s) entT 0
  obtain ⟨T, hT⟩ : ∃ T, T = entT := ⟨_, rfl⟩
  have hTl : T.length = 11 := by rw [hT]; rfl
  have hsl := fun W (c : Nw w0 W) => (hS.nw c hb).sl
  have hce := fun W (c : Nw w0 W) => (hS.nw c hb).ent
  have hF : hasF s = ((T.find? fun e => decide (e.1 = s)).map Prod.snd).getD { data := #[] } := by rw [hT]; rfl
  have hO : hasO s = (T.find? fun e => decide (e.1 = s)).map Prod.snd := by rw [hT]; rfl
  rw [← hT] at hfi hsl hce
  rw [hF, hO]
  clear hF hO hT
  refine fn_of (n := 14) (args := [.string s]) Tryz.func18 rfl rfl rfl (W_seq (W_region ?_))
  refine L_new (.plain rfl) rfl rfl (r_box1 (v := .string _) rfl rfl) (fun w1 b1 hb1 eb1 hs1 c1 => (L_r (r_as rfl) (L_r (r_ab rfl) (L_nil (W_seq (W_region ?_))))))
  refine L_r (r_sliceG Tryz.underlying70 (show _ = some 2 from rfl) rfl) ?_
  refine L_r (r_funcL (l1 := []) (l2 := [.pointer _]) rfl rfl) ?_
  refine L_call (.plain rfl) rfl rfl (r_call Tryz.func47 rfl rfl rfl (by rfl)) (sixf_walk T _ s b1 _ (hsl _ Ch.au) (by omega) Bk.au) ?_
  rintro v7 w2 ⟨rfl, c2⟩
  have hz2 := c2.size
  refine L_r (r_ai rfl) (L_nil (W_seq (W_seq (W_region (L_r (r_mi rfl) (L_r (r_lss rfl rfl) (L_nil ?_)))))))
  refine W_if rfl (fun h9 => ?_) (fun h9 => ?_)
  ·
   obtain ⟨hi1, hi2⟩ := hfi.resolve_right (fun ⟨i, hi, k, _⟩ => by rw [k] at h9; have h8 : ((0 + i : Nat) : Int) < 0 := h9; omega)
   refine W_seq (W_region (L_r (r_as rfl) (L_r (r_ab rfl) (L_nil (W_ret ?_)))))
   refine ret2 (u := .string _) (v := .bool _) rfl rfl rfl ?_
   refine ⟨?_, Ch.au⟩
   rw [hi2]; rfl
  ·
   obtain ⟨i, hi, hi1, hi2⟩ := hfi.resolve_left (fun k => by rw [k.1] at h9; exact h9 (by decide))
   have hz : zOe (idxE s T 0) = i := by rw [hi1]; show ((0 + i : Nat) : Int) = i; rw [Nat.zero_add]
   have hcell : ∀ W, Nw w0 W → W.cell? ⟨0, (zOe (idxE s T 0)).toNat * 2 + 1, none⟩ = some (.string T[i].2) := fun W c => by rw [hz]; exact hce W c (i * 2 + 1) _ (entL_row T i hi 1 _ rfl)
   refine W_skip (W_seq (W_region (L_r (r_mi rfl) ?_)))
   refine L_r (r_idxarr Tryz.underlying70 (show _ = some 2 from rfl) rfl rfl (by omega) (by omega) (by conv => lhs; (try simp only [Nat.mul_one, Nat.zero_add, Int.toNat_natCast, Int.toNat_zero, Int.reduceToNat, Nat.reduceMul, Nat.reduceAdd]))) ?_
   refine L_r (r_fieldb Tryz.underlying69 rfl (show _ = some 1 from rfl) rfl rfl rfl) ?_
   refine L_r (r_loadG rfl rfl (by exact hcell _ Ch.au)) (L_r (r_as rfl) (L_r (r_ab rfl) (L_nil (W_ret ?_))))
   refine ret2 (u := .string _) (v := .bool _) rfl rfl rfl ?_
   refine ⟨?_, Ch.au⟩
   rw [hi2]; rfl
end Go.Proofs.YtgmeojpekdekeaaGreatDoor

namespace Go.Proofs
open Go.Shelf
def Tryz.laysWByte_ren : Go.Shelf.Ren := ⟨fun | 167 => 81 | 240 => 97 | 276 => 117 | n => n, fun | 0 => 0 | 4 => 4 | 5 => 5 | 9 => 9 | 20 => 20 | 37 => 94 | 70 => 93 | 72 => 96 | 75 => 84 | 164 => 123 | 80 => 82 | n => n, fun | n => n⟩
theorem Tryz.laysWByte : Go.Proofs.Lays.n167 Tryz.prog Tryz.laysWByte_ren := {
  mixed := by kernel_rfl
  f167 := Tryz.func81.trans (congrArg some (by kernel_rfl))
  f240 := Tryz.func97.trans (congrArg some (by kernel_rfl))
  f276 := Tryz.func117.trans (congrArg some (by kernel_rfl))
  t0 := Tryz.underlying0
  a0 := Tryz.isAgg0
  z0 := Tryz.sizeOf0
  v0 := Tryz.zeroValue0
  t4 := Tryz.underlying4
  a4 := Tryz.isAgg4
  z4 := Tryz.sizeOf4
  v4 := Tryz.zeroValue4
  t5 := Tryz.underlying5
  a5 := Tryz.isAgg5
  z5 := Tryz.sizeOf5
  v5 := Tryz.zeroValue5
  t9 := Tryz.underlying9
  a9 := Tryz.isAgg9
  z9 := Tryz.sizeOf9
  v9 := Tryz.zeroValue9
  t20 := Tryz.underlying20
  a20 := Tryz.isAgg20
  z20 := Tryz.sizeOf20
  v20 := Tryz.zeroValue20
  t37 := Tryz.underlying94
  a37 := Tryz.isAgg94
  z37 := Tryz.sizeOf94
  v37 := Tryz.zeroValue94
  t70 := Tryz.underlying93
  a70 := Tryz.isAgg93
  z70 := Tryz.sizeOf93
  v70 := Tryz.zeroValue93
  t72 := Tryz.underlying96
  a72 := Tryz.isAgg96
  z72 := Tryz.sizeOf96
  v72 := Tryz.zeroValue96
  t75 := Tryz.underlying84
  a75 := Tryz.isAgg84
  z75 := Tryz.sizeOf84
  v75 := Tryz.zeroValue84
  t164 := Tryz.underlying123
  a164 := Tryz.isAgg123
  z164 := Tryz.sizeOf123
  v164 := Tryz.zeroValue123
  }
end Go.Proofs

namespace Go.Proofs.YtgmeojpekdekeaaGreatDoor
open Go Go.RowKit
set_option linter.unusedVariables false
set_option linter.unusedSimpArgs false
set_option maxRecDepth 100000
theorem ch_put (w : World) (b : Nat) (d : Array UInt8) (n : Nat) : Ch (fun j => j = b) w ((Sort.putRow (fun (b : UInt8) => Value.int .u8 (b.toNat : Int)) w b 0 d).drewN n) := by
  refine Ch.trans (?_ : Ch (fun j => j = b) w (Sort.putRow (fun (b : UInt8) => Value.int .u8 (b.toNat : Int)) w b 0 d)) ((nw_drewN _ n).mono fun _ _ h => h.elim)
  exact ⟨rfl, rfl, rfl, by simp [Sort.putRow, Sort.mapBlock], fun i hi hn => by simp only [Sort.putRow, Sort.mapBlock]; rw [Array.getElem?_modify, if_neg (fun e => hn e.symm)]⟩
theorem fb10_use (u b : Nat) (w : World) (hu1 : 1 ≤ u) (hu : u ≤ 18446744073709551615) (hb : Bk w b Lib.zeros24 104) : Does Tryz.prog 94 #[.slice (some ⟨b, 0, none⟩) (Lib.nDigits u) 24, .int .u64 (u : Int)] w
    (fun r w' => r = .tuple #[] ∧ Sl w' (.slice (some ⟨b, 0, none⟩) (Lib.nDigits u) 24) 1 (Lib.nDigits u) ((Lib.decDigits u).map b8) ∧ Ch (fun j => j = b) w w') := by
  have hnd : Lib.nDigits u ≤ 20 := by rw [← Lib.decDigits_length]; exact digits_len u hu
  have hH : Sort.Holds (fun (b : UInt8) => Value.int .u8 (b.toNat : Int)) w b 0 (Array.replicate (Lib.nDigits u) (0 : UInt8)) := fun j hj => by
    rw [Array.size_replicate] at hj
    refine ⟨?_, ?_⟩
    · rw [hb.cell, Nat.zero_add, Lib.zeros24_at j (by omega), getElem!_pos _ j (by rw [Array.size_replicate]; exact hj), Array.getElem_replicate]; rfl
    · rw [Nat.zero_add]; exact hb.free (by show j < 24; omega)
  have h := Any.internal_strconv_formatBase10 Tryz.laysFB10 b 0 24 u (Array.replicate (Lib.nDigits u) 0) w hH (by rw [Array.size_replicate]; exact Lib.lt_pow_nDigits u) (by omega) (by rw [Array.size_replicate]; omega)
  rw [Array.size_replicate] at h
  refine Calls.mono h ?_
  rintro e w' ⟨rfl, n, v', dk, rfl, hF⟩
  refine ⟨_, rfl, rfl, ?_, ch_put w b dk n⟩
  obtain ⟨fr, h0, _⟩ := hb
  have hblk : ∃ cs, ((Sort.putRow (fun (b : UInt8) => Value.int .u8 (b.toNat : Int)) w b 0 dk).drewN n).heap[b]? = some (.cells cs 104 fr) := by
    show ∃ cs, (Sort.putRow (fun (b : UInt8) => Value.int .u8 (b.toNat : Int)) w b 0 dk).heap[b]? = _
    simp only [Sort.putRow, Sort.mapBlock]
    rw [Array.getElem?_modify, if_pos rfl, h0]
    exact ⟨_, rfl⟩
  obtain ⟨cs, hcs⟩ := hblk
  refine ⟨by rw [List.length_map, Lib.decDigits_length, Nat.mul_one], .inr ⟨b, 0, 24, cs, _, rfl, by omega, ⟨fr, hcs⟩, fun i x hx => ?_⟩⟩
  have hi : i < (Lib.decDigits u).length := by have := (List.getElem?_eq_some_iff.1 hx).1; simpa using this
  have hc := Sort.cell?_putRow (fun (b : UInt8) => Value.int .u8 (b.toNat : Int)) w b 0 _ dk hH (by rw [hF.size, Array.size_replicate]) i (by rw [hF.size]; rw [Lib.decDigits_length] at hi; exact hi)
  rw [← World.cell?_drewN (n := n), Rk.cell (cs := cs) ⟨fr, hcs⟩] at hc
  rw [hc, ← hx, List.getElem?_map, List.getElem?_eq_getElem hi, Lib.row_is_numeral hF i hi]
  rfl
theorem numd_use (base u : Nat) (w : World) (hu1 : 1 ≤ u) (hu : u ≤ 18446744073709551615) (hS : Sv base w) : Does Tryz.prog 93 #[.int .u64 (u : Int)] w (fun r w' => r = .int .i64 (Lib.nDigits u : Nat) ∧ w' = w) :=
  Calls.mono (Any.internal_strconv_numDigits Tryz.laysNumD u hu1 (by omega) w hS.ptab) fun _ _ ⟨e, k⟩ => ⟨_, e, rfl, k⟩
theorem small_use (i : Nat) (w : World) (h : i < 100) : Does Tryz.prog 92 #[.int .i64 (i : Int)] w (fun r w' => r = .string (sb (Lib.decDigits i)) ∧ w' = w) :=
  Calls.mono (Any.internal_strconv_small Tryz.laysSmall i h w) fun _ _ ⟨e, k⟩ => ⟨_, e, rfl, k⟩
theorem fuinti_walk (base u : Nat) (w0 : World) (hu : u ≤ 18446744073709551615) (hS : Sv base w0) (hb : base ≤ w0.heap.size) : Does Tryz.prog 78 #[.int .u64 (u : Int), .int .i64 10] w0 (fun r w' => r = .string (sb (Lib.decDigits u)) ∧ Nw w0 w') := by
  refine fn_of (n := 32) (args := [.int .u64 (u : Int), .int .i64 10]) Tryz.func78 rfl rfl rfl (W_seq (W_region (L_r (r_as rfl) (L_nil (W_seq (W_seq (W_region (L_r (r_mi rfl) ?_))))))))
  refine L_r (r_eql rfl rfl) ?_
  refine L_as (v := .bool _) (v' := .bool true) 10 rfl (dec_t (by rfl)).symm (L_nil ?_)
  refine W_true rfl (W_seq (W_seq (W_region (L_r (r_mi rfl) (L_r (r_lss rfl rfl) (L_nil ?_))))))
  refine W_if rfl (fun h12 => ?_) (fun h12 => ?_)
  ·
   refine W_seq (W_region (L_r (r_mi rfl) ?_))
   refine L_r (r_conv Tryz.underlying26 Tryz.underlying3 rfl (by first | exact wr_i64 (by omega) | rfl)) ?_
   refine L_call (.plain rfl) rfl rfl (r_call Tryz.func92 rfl rfl rfl (by rfl)) (small_use u _ (by omega)) ?_
   rintro v15 w1 ⟨rfl, rfl⟩
   refine L_r (r_as rfl) (L_nil (W_ret ?_))
   refine ret1 (v := .string _) rfl rfl ?_
   exact ⟨rfl, Ch.au⟩
  ·
   refine W_skip (W_seq (W_region ?_))
   refine L_new (.plain rfl) rfl rfl (r_alloca rfl) (fun w2 b5 hb5 eb2 hs2 c2 => (L_nil (W_seq (W_region (L_r (r_mi rfl) ?_)))))
   refine L_call (.plain rfl) rfl rfl (r_call Tryz.func93 rfl rfl rfl (by rfl)) (numd_use base u _ (by omega) hu (hS.nw Ch.au hb)) ?_
   rintro v17 w3 ⟨rfl, rfl⟩
   have hnd : Lib.nDigits u ≤ 20 := by rw [← Lib.decDigits_length]; exact digits_len u hu
   refine L_r (r_ai rfl) (L_nil (W_seq (W_region (L_r (r_mi rfl) ?_))))
   refine L_r (r_sliceAh Tryz.underlying104 (show _ = some 1 from rfl) rfl rfl (by omega)) (L_r (r_mi rfl) ?_)
   refine L_call (.plain rfl) rfl rfl (r_call Tryz.func94 rfl rfl rfl (by rfl)) (fb10_use u b5 _ (by omega) hu Bk.au) ?_
   rintro v21 w4 ⟨rfl, hsl, c4⟩
   have hz4 := c4.size
   have hby : By w4 (.slice (some ⟨b5, 0, none⟩) (Lib.nDigits u) 24) (Lib.decDigits u) := by { show Sl _ _ _ _ _; rw [Lib.decDigits_length]; exact hsl }
   refine L_nil (W_seq (W_region (L_r (r_mi rfl) ?_)))
   refine L_r (r_sliceAh Tryz.underlying104 (show _ = some 1 from rfl) rfl rfl (by omega)) ?_
   refine L_r (r_bstr Tryz.underlying94 Tryz.underlying5 Tryz.underlying9 (by conv => lhs; whnf) Sl.au) (L_r (r_as rfl) (L_nil (W_ret ?_)))
   refine ret1 (v := .string _) rfl rfl ?_
   exact ⟨rfl, Ch.au⟩
theorem fuint_walk (base u : Nat) (w0 : World) (hu : u ≤ 18446744073709551615) (hS : Sv base w0) (hb : base ≤ w0.heap.size) : Does Tryz.prog 40 #[.int .u64 (u : Int), .int .i64 10] w0 (fun r w' => r = .string (sb (Lib.decDigits u)) ∧ Nw w0 w') := by
  refine fn_of (n := 8) (args := [.int .u64 (u : Int), .int .i64 10]) Tryz.func40 rfl rfl rfl (W_seq (W_region (L_r (r_as rfl) (L_nil (W_seq (W_region (L_r (r_mi rfl) (L_r (r_mi rfl) ?_))))))))
  refine L_call (.plain rfl) rfl rfl (r_call Tryz.func78 rfl rfl rfl (by rfl)) (fuinti_walk base u _ hu (hS.nw Ch.au hb) (by omega)) ?_
  rintro v7 w1 ⟨rfl, c1⟩
  have hz1 := c1.size
  refine L_r (r_as rfl) (L_nil (W_ret ?_))
  refine ret1 (v := .string _) rfl rfl ?_
  exact ⟨rfl, Ch.au⟩
end Go.Proofs.YtgmeojpekdekeaaGreatDoor

namespace Go.Proofs.YtgmeojpekdekeaaGreatDoor
open Go Go.RowKit
set_option linter.unusedVariables false
set_option linter.unusedSimpArgs false
set_option maxRecDepth 100000
theorem xw5 : Builder.Extra Tryz.prog Tryz.laysWByte_ren :=
  { sizeBuilder := by kernel_rfl
    liesBuilder := by kernel_rfl
    t5 := Tryz.underlying5
    a5 := Tryz.isAgg5
    z5 := Tryz.sizeOf5
    v5 := Tryz.zeroValue5
    infoByte := by kernel_rfl
    cellsByte := by kernel_rfl
    sizeByte := by kernel_rfl
    neB5 := by decide }
theorem xs5 : Builder.Extra Tryz.prog Tryz.laysBString_ren :=
  { sizeBuilder := by kernel_rfl
    liesBuilder := by kernel_rfl
    t5 := Tryz.underlying5
    a5 := Tryz.isAgg5
    z5 := Tryz.sizeOf5
    v5 := Tryz.zeroValue5
    infoByte := by kernel_rfl
    cellsByte := by kernel_rfl
    sizeByte := by kernel_rfl
    neB5 := by decide }
/-- A strings.Builder in block b that holds these bytes; its row lies from B on. -/
def Bd (B b : Nat) (l : List UInt8) (w : World) : Prop := Lib.IsBuilder 96 5 B b (Lib.byteCells l) w
theorem Bd.new {B b : Nat} {w : World} (hB : B ≤ b) (h : w.heap[b]? = some (.cells #[.pointer none, .slice none 0 0] 96 (0, 0))) : Bd B b [] w :=
  .inl ⟨hB, .slice none 0 0, h, Own.nil w B 5 1, by simp [Value.ownBlock]⟩
theorem below_ch {B : Nat} {w w' : World} (h : Below B w w') : Ch (fun j => B ≤ j) w w' := ⟨h.os, h.tape, h.output, h.size, fun i hi hn => h.block i (by omega)⟩
theorem wb_use (B b : Nat) (l : List UInt8) (c : UInt8) (w : World) (h : Bd B b l w) (hl : l.length ≤ 1000000000000) (hB : B ≤ w.heap.size) : Does Tryz.prog 81 #[.pointer (some ⟨b, 0, none⟩), .int .u8 (c.toNat : Int)] w (fun r w' => r = .nilIface ∧ Bd B b (l ++ [c]) w' ∧ Ch (fun j => B ≤ j) w w') :=
  Calls.mono (Any.Builder_WriteByte Tryz.laysWByte xw5 B b (Lib.byteCells l) c.toNat w h (by simp [Lib.byteCells]; omega) hB) fun _ _ ⟨e, k, hb⟩ => ⟨_, e, rfl, .inr (by have : Lib.byteCells (l ++ [c]) = Lib.byteCells l ++ [.int .u8 (c.toNat : Int)] := by { simp [Lib.byteCells] }; rw [this]; exact k), below_ch hb⟩
theorem bstr_use (B b : Nat) (l : List UInt8) (w : World) (h : Bd B b l w) (hB : B ≤ w.heap.size) : Does Tryz.prog 82 #[.pointer (some ⟨b, 0, none⟩)] w (fun r w' => r = .string (sb l) ∧ Ch (fun j => B ≤ j) w w') :=
  Calls.mono (Any.Builder_String_any Tryz.laysBString xs5 B b l w h hB) fun _ _ ⟨e, hb⟩ => ⟨_, e, rfl, below_ch hb⟩
theorem hexL_take {l : List UInt8} {i : Nat} (h : i < l.length) : hexL (l.take (i + 1)) = hexL (l.take i) ++ [hexD (l[i].toNat / 16)] ++ [hexD (l[i].toNat % 16)] := by
  unfold hexL
  rw [List.take_succ_eq_append_getElem h, List.flatMap_append]
  simp
theorem digs_at {n : Nat} (h : n < 16) : bat { data := #[48, 49, 50, 51, 52, 53, 54, 55, 56, 57, 97, 98, 99, 100, 101, 102] } n = hexD n := by
  have key : ∀ n : Fin 16, bat { data := #[48, 49, 50, 51, 52, 53, 54, 55, 56, 57, 97, 98, 99, 100, 101, 102] } n.1 = hexD n.1 := by decide +kernel
  exact key ⟨n, h⟩
theorem ge_nw {w w' : World} (h : Ch (fun j => w.heap.size ≤ j) w w') : Nw w w' := ⟨h.os, h.tape, h.output, h.size, fun i hi _ => h.blk i hi (by omega)⟩
theorem and15 (c : UInt8) : bits .and .u8 (c.toNat : Int) 15 = ((c.toNat % 16 : Nat) : Int) := by
  have key : ∀ n : Fin 256, bits .and .u8 ((n.1 : Nat) : Int) 15 = ((n.1 % 16 : Nat) : Int) := by decide +kernel
  exact key ⟨c.toNat, c.toNat_lt⟩
theorem shex_walk (s : ByteArray) (w0 : World) (hs : s.size ≤ 1000000) : Does Tryz.prog 42 #[.string s] w0 (fun r w' => r = .string (sb (hexB s)) ∧ Nw w0 w') := by
  have e16 : ({ data := #[48, 49, 50, 51, 52, 53, 54, 55, 56, 57, 97, 98, 99, 100, 101, 102] } : ByteArray).size = 16 := rfl
  refine fn_of (n := 26) (args := [.string s]) Tryz.func42 rfl rfl rfl (W_seq (W_region (L_r (r_as rfl) (L_nil (W_seq (W_seq (W_region (L_r (r_ms rfl) ?_))))))))
  refine L_r (r_eqls rfl rfl) (L_nil ?_)
  refine W_if rfl (fun h6 => ?_) (fun h6 => ?_)
  ·
   refine W_seq (W_region (L_r (r_as rfl) (L_nil (W_ret ?_))))
   refine ret1 (v := .string _) rfl rfl ?_
   refine ⟨?_, ge_nw Ch.au⟩
   unfold hexB
   first
   | (rw [if_pos (by assumption)]; rfl)
   | (rw [if_neg (by assumption), List.take_of_length_le (by rw [bs_length]; omega)])
  ·
   refine W_skip (W_seq (W_region ?_))
   refine L_newx (.plain rfl) rfl rfl (r_alloca rfl) (fun w1 b3 hb3 eb1 hs1 c1 hx3 => (L_nil (W_seq (W_seq (W_region (L_r (r_ms rfl) ?_))))))
   refine L_r (r_lens Tryz.underlying9 rfl) (L_r (r_mi rfl) (L_nil (W_block ?_)))
   refine W_loopF [0, 3, 8] (fun mz_ f W => ∃ (i : Nat), f 9 = .int .i64 i ∧ (i ≤ s.size ∧ Bd w0.heap.size b3 (hexL ((bs s).take i)) W ∧ Ch (fun j => w0.heap.size ≤ j) w0 W) ∧ mz_ = s.size - i) ?_ ?_
   ·
    refine ⟨_, 0, rfl, ?_, rfl⟩
    exact ⟨by omega, Bd.new (by omega) hx3, Ch.au⟩
   rintro m0 g0 w2 ⟨i, hf9, hR0, rfl⟩
   refine W_as 9 hf9 rfl ?_
   clear hf9
   obtain ⟨hi, hbd, hnw⟩ := hR0
   have hz := hnw.size
   have hxl := hexL_len ((bs s).take i)
   rw [List.length_take, bs_length] at hxl
   refine W_seq (W_region (L_r (r_lss rfl rfl) (L_nil (W_seq ?_))))
   refine W_if rfl (fun h10 => ?_) (fun h10 => ?_)
   ·
    have hil : i < s.size := by omega
    have hbi : bat s i = (bs s)[i]'(by rw [bs_length]; exact hil) := by show (bs s).getD i 0 = _; rw [List.getD_eq_getElem?_getD, List.getElem?_eq_getElem (by rw [bs_length]; exact hil), Option.getD_some]
    have hb8 := (bat s i).toNat_lt
    have ean := and15 (bat s i)
    refine W_skip (W_seq (W_block (W_seq (W_region (L_r (r_mi rfl) (L_r (r_ai rfl) (L_nil (W_seq ?_))))))))
    refine W_region (L_r (r_ms rfl) (L_r (r_mi rfl) ?_))
    refine L_r (r_indexs Tryz.underlying9 rfl rfl (by omega) (by omega) (by conv => lhs; (try simp only [Nat.mul_one, Nat.zero_add, Int.toNat_natCast, Int.toNat_zero, Int.reduceToNat, Nat.reduceMul, Nat.reduceAdd]))) ?_
    refine L_r (r_shrc (q := 16) rfl rfl (by omega) (by decide)) ?_
    refine L_r (r_indexs Tryz.underlying9 rfl rfl (by omega) (by omega) (by conv => lhs; (try simp only [Nat.mul_one, Nat.zero_add, Int.toNat_natCast, Int.toNat_zero, Int.reduceToNat, Nat.reduceMul, Nat.reduceAdd]))) ?_
    refine L_call (.plain rfl) rfl rfl (r_call Tryz.func81 rfl rfl rfl (by rfl)) (wb_use w0.heap.size b3 _ _ _ hbd (by omega) (by omega)) ?_
    rintro v17 w3 ⟨rfl, hbd1, c3⟩
    have hz3 := c3.size
    refine L_nil (W_region (L_r (r_ms rfl) (L_r (r_mi rfl) ?_)))
    refine L_r (r_indexs Tryz.underlying9 rfl rfl (by omega) (by omega) (by conv => lhs; (try simp only [Nat.mul_one, Nat.zero_add, Int.toNat_natCast, Int.toNat_zero, Int.reduceToNat, Nat.reduceMul, Nat.reduceAdd]))) (L_r (r_and rfl rfl) ?_)
    refine L_r (r_indexs Tryz.underlying9 rfl rfl (by omega) (by omega) (by conv => lhs; (try simp only [Nat.mul_one, Nat.zero_add, Int.toNat_natCast, Int.toNat_zero, Int.reduceToNat, Nat.reduceMul, Nat.reduceAdd]))) ?_
    refine L_call (.plain rfl) rfl rfl (r_call Tryz.func81 rfl rfl rfl (by rfl)) (wb_use w0.heap.size b3 _ _ _ hbd1 (by simp only [List.length_append, List.length_singleton]; omega) (by omega)) ?_
    rintro v23 w4 ⟨rfl, hbd2, c4⟩
    have hz4 := c4.size
    refine L_nil (W_region ?_)
    refine L_r (r_add rfl rfl (by first | exact wr_i64 (by omega) | rfl)) (L_r (r_mi rfl) (L_nil ?_))
    refine ⟨⟨fx2, fx2, fx2, trivial⟩, _, ?_, i + 1, rfl, ?_, rfl⟩
    · omega
    refine ⟨by omega, (congrArg (fun z => Bd w0.heap.size b3 z _) ?_).mp hbd2, Ch.au⟩
    rw [hexL_take (by rw [bs_length]; exact hil), ← hbi, ← digs_at (n := (bat s i).toNat / 16) (by omega), ← digs_at (n := (bat s i).toNat % 16) (by omega)]
    congr 3 <;> first | omega | (congr 1; omega) | (congr 2; omega)
   ·
    refine W_exit ?_
    repeat (first | refine blk_hit ?_ | refine blk_miss rfl ?_)
    refine W_seq (W_region ?_)
    refine L_call (.plain rfl) rfl rfl (r_call Tryz.func82 rfl rfl rfl (by rfl)) (bstr_use w0.heap.size b3 _ _ hbd (by omega)) ?_
    rintro v25 w5 ⟨rfl, c5⟩
    have hz5 := c5.size
    refine L_r (r_as rfl) (L_nil (W_ret ?_))
    refine ret1 (v := .string _) rfl rfl ?_
    refine ⟨?_, ge_nw Ch.au⟩
    unfold hexB
    first
    | (rw [if_pos (by assumption)]; rfl)
    | (rw [if_neg (by assumption), List.take_of_length_le (by rw [bs_length]; omega)])
theorem hexB_len (s : ByteArray) : (hexB s).length ≤ 2 * s.size + 1 := by
  unfold hexB
  split
  · simp
  · rw [hexL_len, bs_length]; omega
theorem svalue_walk (base : Nat) (v : Va) (w0 : World) (hs : v.s.size ≤ 1000000) (hn : -9223372036854775808 ≤ v.n ∧ v.n ≤ 9223372036854775807) (hr : -9223372036854775808 ≤ v.ref ∧ v.ref ≤ 9223372036854775807) (hS : Sv base w0) (hb : base ≤ w0.heap.size) : Does Tryz.prog 41 #[v.v] w0 (fun r w' => r = .string (sb (valB v)) ∧ Nw w0 w') := by
  have e58 : ({ data := #[58] } : ByteArray).size = 1 := rfl
  have e64 : ({ data := #[64] } : ByteArray).size = 1 := rfl
  have hxb := hexB_len v.s
  have hxs := sb_size (hexB v.s)
  have his := itoa_len hr
  have hit := sb_size (Lib.itoa v.ref)
  refine fn_of (n := 28) (args := [v.v]) Tryz.func41 rfl rfl rfl (W_seq (W_region ?_))
  refine L_new (.plain rfl) rfl rfl (r_boxa rfl) (fun w1 b1 hb1 eb1 hs1 c1 => (L_r (r_as rfl) (L_nil (W_seq (W_seq (W_region ?_))))))
  refine L_r (r_fieldb Tryz.underlying43 rfl (show _ = some 1 from rfl) rfl rfl (show _ = 0 from rfl)) (L_r (r_lb rfl rfl) (L_nil (W_block (W_seq (W_region (L_r (r_eql rfl rfl) (L_r (r_ab rfl) (L_nil ?_))))))))
  refine W_if rfl (fun h5 => ?_) (fun h5 => ?_)
  ·
   refine W_seq (W_region ?_)
   refine L_r (r_fieldb Tryz.underlying43 rfl (show _ = some 1 from rfl) rfl rfl (show _ = 1 from rfl)) (L_r (r_lb rfl rfl) ?_)
   refine L_call (.plain rfl) rfl rfl (r_call Tryz.func79 rfl rfl rfl (by rfl)) (sfmt_use base v.n _ hn (hS.nw Ch.au hb)) ?_
   rintro v9 w2 ⟨rfl, c2⟩
   have hz2 := c2.size
   refine L_r (r_as rfl) (L_nil (W_ret ?_))
   refine ret1 (v := .string _) rfl rfl ?_
   refine ⟨?_, Ch.au⟩
   unfold valB
   first
   | (rw [if_pos (by assumption)]; done)
   | (conv => rhs; rw [if_neg (by assumption), if_pos (by assumption)]
      by_cases h1 : v.n = 1 <;> simp [h1]; done)
   | (rw [if_neg (by assumption), if_neg (by assumption), if_pos (by assumption)]; exact congrArg Value.string (sb_append [58] (hexB v.s)).symm)
   | (rw [if_neg (by assumption), if_neg (by assumption), if_neg (by assumption), if_pos (by assumption)]; exact congrArg Value.string (sb_append [64] (Lib.itoa v.ref)).symm)
   | (rw [if_neg (by assumption), if_neg (by assumption), if_neg (by assumption), if_neg (by assumption)]; rfl)
  ·
   refine W_seq (W_region (L_r (r_eql rfl rfl) (L_r (r_ab rfl) (L_nil ?_))))
   refine W_if rfl (fun h10 => ?_) (fun h10 => ?_)
   ·
    refine W_seq (W_region ?_)
    refine L_r (r_fieldb Tryz.underlying43 rfl (show _ = some 1 from rfl) rfl rfl (show _ = 1 from rfl)) (L_r (r_lb rfl rfl) (L_r (r_eql rfl rfl) ?_))
    refine L_call (.plain rfl) rfl rfl (r_call Tryz.func80 rfl rfl rfl (by rfl)) (sbool_use _ _) ?_
    rintro v15 w3 ⟨rfl, c3⟩
    have hz3 := c3.size
    refine L_r (r_as rfl) (L_nil (W_ret ?_))
    refine ret1 (v := .string _) rfl rfl ?_
    refine ⟨?_, Ch.au⟩
    unfold valB
    first
    | (rw [if_pos (by assumption)]; done)
    | (conv => rhs; rw [if_neg (by assumption), if_pos (by assumption)]
       by_cases h1 : v.n = 1 <;> simp [h1]; done)
    | (rw [if_neg (by assumption), if_neg (by assumption), if_pos (by assumption)]; exact congrArg Value.string (sb_append [58] (hexB v.s)).symm)
    | (rw [if_neg (by assumption), if_neg (by assumption), if_neg (by assumption), if_pos (by assumption)]; exact congrArg Value.string (sb_append [64] (Lib.itoa v.ref)).symm)
    | (rw [if_neg (by assumption), if_neg (by assumption), if_neg (by assumption), if_neg (by assumption)]; rfl)
   ·
    refine W_seq (W_region (L_r (r_eql rfl rfl) (L_r (r_ab rfl) (L_nil ?_))))
    refine W_if rfl (fun h16 => ?_) (fun h16 => ?_)
    ·
     refine W_seq (W_region ?_)
     refine L_r (r_fieldb Tryz.underlying43 rfl (show _ = some 1 from rfl) rfl rfl (show _ = 2 from rfl)) (L_r (r_lb rfl rfl) ?_)
     refine L_call (.plain rfl) rfl rfl (r_call Tryz.func42 rfl rfl rfl (by rfl)) (shex_walk v.s _ hs) ?_
     rintro v20 w4 ⟨rfl, c4⟩
     have hz4 := c4.size
     refine L_r (r_adds rfl rfl (by first | omega | (simp only [ByteArray.size_append]; omega))) (L_r (r_as rfl) (L_nil (W_ret ?_)))
     refine ret1 (v := .string _) rfl rfl ?_
     refine ⟨?_, Ch.au⟩
     unfold valB
     first
     | (rw [if_pos (by assumption)]; done)
     | (conv => rhs; rw [if_neg (by assumption), if_pos (by assumption)]
        by_cases h1 : v.n = 1 <;> simp [h1]; done)
     | (rw [if_neg (by assumption), if_neg (by assumption), if_pos (by assumption)]; exact congrArg Value.string (sb_append [58] (hexB v.s)).symm)
     | (rw [if_neg (by assumption), if_neg (by assumption), if_neg (by assumption), if_pos (by assumption)]; exact congrArg Value.string (sb_append [64] (Lib.itoa v.ref)).symm)
     | (rw [if_neg (by assumption), if_neg (by assumption), if_neg (by assumption), if_neg (by assumption)]; rfl)
    ·
     refine W_seq (W_region (L_r (r_eql rfl rfl) (L_r (r_ab rfl) (L_nil ?_))))
     refine W_if rfl (fun h22 => ?_) (fun h22 => ?_)
     ·
      refine W_seq (W_region ?_)
      refine L_r (r_fieldb Tryz.underlying43 rfl (show _ = some 1 from rfl) rfl rfl (show _ = 3 from rfl)) (L_r (r_lb rfl rfl) ?_)
      refine L_call (.plain rfl) rfl rfl (r_call Tryz.func39 rfl rfl rfl (by rfl)) (sitoa_walk base v.ref _ hr (hS.nw Ch.au hb) (by omega)) ?_
      rintro v26 w5 ⟨rfl, c5⟩
      have hz5 := c5.size
      refine L_r (r_adds rfl rfl (by first | omega | (simp only [ByteArray.size_append]; omega))) (L_r (r_as rfl) (L_nil (W_ret ?_)))
      refine ret1 (v := .string _) rfl rfl ?_
      refine ⟨?_, Ch.au⟩
      unfold valB
      first
      | (rw [if_pos (by assumption)]; done)
      | (conv => rhs; rw [if_neg (by assumption), if_pos (by assumption)]
         by_cases h1 : v.n = 1 <;> simp [h1]; done)
      | (rw [if_neg (by assumption), if_neg (by assumption), if_pos (by assumption)]; exact congrArg Value.string (sb_append [58] (hexB v.s)).symm)
      | (rw [if_neg (by assumption), if_neg (by assumption), if_neg (by assumption), if_pos (by assumption)]; exact congrArg Value.string (sb_append [64] (Lib.itoa v.ref)).symm)
      | (rw [if_neg (by assumption), if_neg (by assumption), if_neg (by assumption), if_neg (by assumption)]; rfl)
     ·
      refine W_skip (W_seq (W_region (L_r (r_as rfl) (L_nil (W_ret ?_)))))
      refine ret1 (v := .string _) rfl rfl ?_
      refine ⟨?_, Ch.au⟩
      unfold valB
      first
      | (rw [if_pos (by assumption)]; done)
      | (conv => rhs; rw [if_neg (by assumption), if_pos (by assumption)]
         by_cases h1 : v.n = 1 <;> simp [h1]; done)
      | (rw [if_neg (by assumption), if_neg (by assumption), if_pos (by assumption)]; exact congrArg Value.string (sb_append [58] (hexB v.s)).symm)
      | (rw [if_neg (by assumption), if_neg (by assumption), if_neg (by assumption), if_pos (by assumption)]; exact congrArg Value.string (sb_append [64] (Lib.itoa v.ref)).symm)
      | (rw [if_neg (by assumption), if_neg (by assumption), if_neg (by assumption), if_neg (by assumption)]; rfl)
end Go.Proofs.YtgmeojpekdekeaaGreatDoor

namespace Go.Proofs.YtgmeojpekdekeaaGreatDoor
open Go Go.RowKit
set_option linter.unusedVariables false
set_option linter.unusedSimpArgs false
set_option maxRecDepth 100000
def dgB (v : Nat) : UInt8 := UInt8.ofNat (48 + v % 10)
theorem dd_low {v : Nat} (h : v < 10) : Lib.decDigits v = [dgB v] := by
  rw [Lib.decDigits, dif_pos h]; unfold dgB; rw [Nat.mod_eq_of_lt h]
theorem dd_high {v : Nat} (h : ¬ v < 10) : Lib.decDigits v = Lib.decDigits (v / 10) ++ [dgB v] := by rw [Lib.decDigits, dif_neg h]; rfl
/-- Digits that are still to come, ahead of those that are there. -/
def ddA (v : Nat) (s : List UInt8) : List UInt8 := if v = 0 then s else Lib.decDigits v ++ s
theorem dd_step (v : Nat) (s : List UInt8) : Lib.decDigits v ++ s = ddA (v / 10) (dgB v :: s) := by
  unfold ddA
  by_cases h : v < 10
  · rw [if_pos (by omega), dd_low h]; rfl
  · rw [if_neg (by omega), dd_high h]; simp
theorem neg_abs {n : Int} (hn : -9223372036854775808 ≤ n ∧ n ≤ 9223372036854775807) (h : n < 0) : IntKind.u64.wrap (0 - (IntKind.u64.wrap n)) = (n.natAbs : Int) := by simp [IntKind.wrap, IntKind.bits, IntKind.signed]; omega
theorem pos_abs {n : Int} (hn : -9223372036854775808 ≤ n ∧ n ≤ 9223372036854775807) (h : ¬ n < 0) : IntKind.u64.wrap n = (n.natAbs : Int) := by simp [IntKind.wrap, IntKind.bits, IntKind.signed]; omega
theorem dg_meas {s : List UInt8} {v m : Nat} {c : UInt8} (h : s = [] ∨ 0 < v) (hvm : v ≤ m) : (if c :: s = [] then m + 2 else v / 10) < if s = [] then m + 2 else v := by
  rw [if_neg (by simp)]
  split
  · omega
  ·
   rename_i hs
   have : 0 < v := h.resolve_left hs
   omega
theorem rdigits_walk (n : Int) (w0 : World) (hn : -9223372036854775808 ≤ n ∧ n ≤ 9223372036854775807) : Does Tryz.prog 43 #[.int .i64 n] w0 (fun r w' => r = .string (sb (Lib.itoa n)) ∧ Nw w0 w') := by
  have hml := digits_len n.natAbs (by omega)
  have h45 : ({ data := #[45] } : ByteArray).size = 1 := rfl
  refine fn_of (n := 32) (args := [.int .i64 n]) Tryz.func43 rfl rfl rfl (W_seq (W_region (L_r (r_as rfl) (L_nil (W_seq (W_region (L_r (r_mi rfl) ?_)))))))
  refine L_r (r_conv Tryz.underlying2 Tryz.underlying26 rfl (by first | exact wr_u64 (by omega) | rfl)) (L_r (r_ai rfl) (L_nil (W_seq (W_region (L_r (r_as rfl) (L_nil (W_seq (W_seq ?_))))))))
  refine W_region (L_r (r_mi rfl) (L_r (r_lss rfl rfl) (L_nil ?_)))
  refine W_endF [0, 4] (fun f W => f 3 = .int .u64 (n.natAbs : Int) ∧ (Nw w0 W)) ?_ ?_
  ·
   refine W_if rfl (fun h8 => ?_) (fun h8 => ?_)
   ·
    refine W_region (L_r (r_mi rfl) ?_)
    refine L_r (r_neg rfl (by first | exact wr_u64 (by omega) | rfl)) (L_r (r_ai rfl) (L_nil ?_))
    refine ⟨⟨fx2, fx2, trivial⟩, (by refine congrArg (Value.int .u64) ?_; first | exact neg_abs hn (by assumption) | exact pos_abs hn (by assumption)), ?_⟩
    (exact Ch.au)
   ·
    refine W_skip ?_
    refine ⟨⟨fx2, fx2, trivial⟩, (by refine congrArg (Value.int .u64) ?_; first | exact neg_abs hn (by assumption) | exact pos_abs hn (by assumption)), ?_⟩
    (exact Ch.au)
  rintro gct8 w1 ⟨hf3, hCt8⟩
  refine W_as 3 hf3 rfl ?_
  clear hf3
  have hz8 := hCt8.size
  obtain ⟨m, hm⟩ : ∃ m, m = n.natAbs := ⟨_, rfl⟩
  rw [← hm] at hml ⊢
  refine W_seq (W_block ?_)
  refine W_loopF [0] (fun mz_ f W => ∃ (s : List UInt8) (v : Nat), f 4 = .string (sb s) ∧ f 3 = .int .u64 (v : Int) ∧ ((s = [] → v = m) ∧ (s ≠ [] → Lib.decDigits m = ddA v s) ∧ v ≤ m ∧ s.length ≤ 20 ∧ Nw w0 W) ∧ mz_ = if s = [] then m + 2 else v) ?_ ?_
  ·
   refine ⟨_, [], m, rfl, rfl, ?_, rfl⟩
   exact ⟨fun _ => rfl, fun h => absurd rfl h, by omega, by decide, Ch.au⟩
  rintro m0 g0 w2 ⟨s, v, hf4, hf3, hR0, rfl⟩
  refine W_as 4 hf4 rfl ?_
  refine W_as 3 hf3 rfl ?_
  clear hf4 hf3
  obtain ⟨h1, h2, hvm, hsl, hnw⟩ := hR0
  have hz := hnw.size
  have hse : sb s = { data := #[] } ↔ s = [] := by
    constructor
    · intro h; have h2 : sb s = sb [] := h; exact sb_inj.1 h2
    · intro h; rw [h]; rfl
  have hgo : Lib.decDigits m = ddA (v / 10) (dgB v :: s) ∨ (s ≠ [] ∧ v = 0) := by
    by_cases hs : s = []
    ·
     left
     rw [← dd_step, h1 hs, hs]; simp
    ·
     by_cases hv : v = 0
     · exact .inr ⟨hs, hv⟩
     ·
      left
      rw [h2 hs, ← dd_step]
      exact if_neg hv
  have hln : Lib.decDigits m = ddA (v / 10) (dgB v :: s) → s.length + 1 ≤ 20 := by
    intro h
    have := congrArg List.length h
    unfold ddA at this
    split at this
    · rw [List.length_cons] at this; omega
    · rw [List.length_append, List.length_cons] at this; omega
  refine W_seq (W_seq (W_region (L_r (r_ms rfl) (L_r (r_eqls rfl rfl) (L_r (r_mb rfl) ?_)))))
  refine L_case (d := 13) rfl (fun h13 => ?_) (fun h13 => ?_)
  ·
   refine L_ps (L_ps (L_r (r_pt rfl rfl) (L_nil ?_)))
   refine W_true rfl (W_skip (W_block (W_seq (W_region (L_r (r_mi rfl) ?_)))))
   refine L_r (r_remn rfl rfl (by omega) (by omega)) ?_
   refine L_r (r_add rfl rfl (by first | exact wr_u64 (by omega) | rfl)) ?_
   refine L_r (r_conv Tryz.underlying26 Tryz.underlying5 rfl (by first | exact wr_u8 (by omega) | rfl)) ?_
   refine L_build1 [.int _ _] Tryz.underlying94 rfl rfl rfl (.plain rfl) rfl (by rfl) (by rfl) (by rfl) (fun b21 w3 hb21 hv21 eb3 hs3 c3 => ?_)
   have hB21 : By w3 (.slice (some ⟨b21, 0, none⟩) 1 1) [dgB v] := by
     have e : ([dgB v].map b8) = [.int .u8 (48 + (v : Int) % 10)] := by
       show [Value.int .u8 ((dgB v).toNat : Int)] = _
       unfold dgB
       rw [UInt8.toNat_ofNat']
       congr 2
       omega
     show Sl _ _ 1 1 ([dgB v].map b8)
     rw [e]; exact hv21
   refine L_r (r_bstr Tryz.underlying94 Tryz.underlying5 Tryz.underlying9 (by conv => lhs; whnf) Sl.au) (L_r (r_ms rfl) ?_)
   refine L_r (r_adds rfl rfl (by simp only [ByteArray.size_append, sb_size, List.length_cons, List.length_nil]; omega)) (L_r (r_as rfl) (L_nil (W_region (L_r (r_mi rfl) ?_))))
   refine L_r (r_quon rfl rfl (by omega) (by omega) (by first | exact wr_u64 (by omega) | rfl)) (L_r (r_ai rfl) (L_nil ?_))
   refine ⟨⟨fx2, trivial⟩, _, ?_, dgB v :: s, v / 10, (by exact congrArg Value.string ((sb_append [dgB v] s).symm)), (by exact congrArg (Value.int _) (by omega)), ?_, rfl⟩
   · exact dg_meas (by first | exact .inl (hse.1 (by assumption)) | exact .inr (by omega)) hvm
   refine ⟨fun h => absurd h (by simp), fun _ => ?_, by omega, ?_, Ch.au⟩
   ·
    rcases hgo with h | ⟨h, k⟩
    · exact h
    ·
     exfalso
     first | omega | exact h (hse.1 (by assumption))
   ·
    rcases hgo with h | ⟨h, k⟩
    · exact hln h
    ·
     exfalso
     first | omega | exact h (hse.1 (by assumption))
  ·
   refine L_g (r_mi rfl) ?_
   refine L_g (r_gtr rfl rfl) (L_r (r_pf rfl rfl) (L_nil ?_))
   refine W_if rfl (fun h16 => ?_) (fun h16 => ?_)
   ·
    refine W_skip (W_block (W_seq (W_region (L_r (r_mi rfl) ?_))))
    refine L_r (r_remn rfl rfl (by omega) (by omega)) ?_
    refine L_r (r_add rfl rfl (by first | exact wr_u64 (by omega) | rfl)) ?_
    refine L_r (r_conv Tryz.underlying26 Tryz.underlying5 rfl (by first | exact wr_u8 (by omega) | rfl)) ?_
    refine L_build1 [.int _ _] Tryz.underlying94 rfl rfl rfl (.plain rfl) rfl (by rfl) (by rfl) (by rfl) (fun b21 w4 hb21 hv21 eb4 hs4 c4 => ?_)
    have hB21 : By w4 (.slice (some ⟨b21, 0, none⟩) 1 1) [dgB v] := by
      have e : ([dgB v].map b8) = [.int .u8 (48 + (v : Int) % 10)] := by
        show [Value.int .u8 ((dgB v).toNat : Int)] = _
        unfold dgB
        rw [UInt8.toNat_ofNat']
        congr 2
        omega
      show Sl _ _ 1 1 ([dgB v].map b8)
      rw [e]; exact hv21
    refine L_r (r_bstr Tryz.underlying94 Tryz.underlying5 Tryz.underlying9 (by conv => lhs; whnf) Sl.au) (L_r (r_ms rfl) ?_)
    refine L_r (r_adds rfl rfl (by simp only [ByteArray.size_append, sb_size, List.length_cons, List.length_nil]; omega)) (L_r (r_as rfl) (L_nil (W_region (L_r (r_mi rfl) ?_))))
    refine L_r (r_quon rfl rfl (by omega) (by omega) (by first | exact wr_u64 (by omega) | rfl)) (L_r (r_ai rfl) (L_nil ?_))
    refine ⟨⟨fx2, trivial⟩, _, ?_, dgB v :: s, v / 10, (by exact congrArg Value.string ((sb_append [dgB v] s).symm)), (by exact congrArg (Value.int _) (by omega)), ?_, rfl⟩
    · exact dg_meas (by first | exact .inl (hse.1 (by assumption)) | exact .inr (by omega)) hvm
    refine ⟨fun h => absurd h (by simp), fun _ => ?_, by omega, ?_, Ch.au⟩
    ·
     rcases hgo with h | ⟨h, k⟩
     · exact h
     ·
      exfalso
      first | omega | exact h (hse.1 (by assumption))
    ·
     rcases hgo with h | ⟨h, k⟩
     · exact hln h
     ·
      exfalso
      first | omega | exact h (hse.1 (by assumption))
   ·
    refine W_exit ?_
    repeat (first | refine blk_hit ?_ | refine blk_miss rfl ?_)
    refine W_seq (W_seq (W_region (L_r (r_mi rfl) (L_r (r_lss rfl rfl) (L_nil ?_)))))
    refine W_if rfl (fun h28 => ?_) (fun h28 => ?_)
    ·
     refine W_seq (W_region (L_r (r_ms rfl) ?_))
     refine L_r (r_adds rfl rfl (by simp only [ByteArray.size_append, sb_size, List.length_cons, List.length_nil]; omega)) (L_r (r_as rfl) (L_nil (W_ret ?_)))
     refine ret1 (v := .string _) rfl rfl ?_
     refine ⟨?_, Ch.au⟩
     have hs : s ≠ [] := fun h => h13 (hse.2 h)
     have hd := h2 hs
     rw [ddA, if_pos (by omega), hm] at hd
     unfold Lib.itoa
     first
     | (rw [if_pos (by assumption), hd]; exact congrArg Value.string (sb_append [45] s).symm)
     | (rw [if_neg (by assumption), show n.toNat = n.natAbs by omega, hd]; done)
    ·
     refine W_skip (W_seq (W_region (L_r (r_ms rfl) (L_r (r_as rfl) (L_nil (W_ret ?_))))))
     refine ret1 (v := .string _) rfl rfl ?_
     refine ⟨?_, Ch.au⟩
     have hs : s ≠ [] := fun h => h13 (hse.2 h)
     have hd := h2 hs
     rw [ddA, if_pos (by omega), hm] at hd
     unfold Lib.itoa
     first
     | (rw [if_pos (by assumption), hd]; exact congrArg Value.string (sb_append [45] s).symm)
     | (rw [if_neg (by assumption), show n.toNat = n.natAbs by omega, hd]; done)
theorem rwhole_walk (m : Nat) (w0 : World) (hm64 : m ≤ 18446744073709551615) : Does Tryz.prog 44 #[.int .u64 (m : Int)] w0 (fun r w' => r = .string (sb (Lib.decDigits m)) ∧ Nw w0 w') := by
  have hml := digits_len m hm64
  refine fn_of (n := 21) (args := [.int .u64 (m : Int)]) Tryz.func44 rfl rfl rfl (W_seq (W_region (L_r (r_as rfl) (L_nil (W_seq (W_region (L_r (r_as rfl) (L_nil ?_))))))))
  refine W_seq (W_block ?_)
  refine W_loopF [] (fun mz_ f W => ∃ (s : List UInt8) (v : Nat), f 3 = .string (sb s) ∧ f 0 = .int .u64 (v : Int) ∧ ((s = [] → v = m) ∧ (s ≠ [] → Lib.decDigits m = ddA v s) ∧ v ≤ m ∧ s.length ≤ 20 ∧ Nw w0 W) ∧ mz_ = if s = [] then m + 2 else v) ?_ ?_
  ·
   refine ⟨_, [], m, rfl, rfl, ?_, rfl⟩
   exact ⟨fun _ => rfl, fun h => absurd rfl h, by omega, by decide, Ch.au⟩
  rintro m0 g0 w1 ⟨s, v, hf3, hf0, hR0, rfl⟩
  refine W_as 3 hf3 rfl ?_
  refine W_as 0 hf0 rfl ?_
  clear hf3 hf0
  obtain ⟨h1, h2, hvm, hsl, hnw⟩ := hR0
  have hz := hnw.size
  have hse : sb s = { data := #[] } ↔ s = [] := by
    constructor
    · intro h; have h2 : sb s = sb [] := h; exact sb_inj.1 h2
    · intro h; rw [h]; rfl
  have hgo : Lib.decDigits m = ddA (v / 10) (dgB v :: s) ∨ (s ≠ [] ∧ v = 0) := by
    by_cases hs : s = []
    ·
     left
     rw [← dd_step, h1 hs, hs]; simp
    ·
     by_cases hv : v = 0
     · exact .inr ⟨hs, hv⟩
     ·
      left
      rw [h2 hs, ← dd_step]
      exact if_neg hv
  have hln : Lib.decDigits m = ddA (v / 10) (dgB v :: s) → s.length + 1 ≤ 20 := by
    intro h
    have := congrArg List.length h
    unfold ddA at this
    split at this
    · rw [List.length_cons] at this; omega
    · rw [List.length_append, List.length_cons] at this; omega
  refine W_seq (W_seq (W_region (L_r (r_ms rfl) (L_r (r_eqls rfl rfl) (L_r (r_mb rfl) ?_)))))
  refine L_case (d := 6) rfl (fun h6 => ?_) (fun h6 => ?_)
  ·
   refine L_ps (L_ps (L_r (r_pt rfl rfl) (L_nil ?_)))
   refine W_true rfl (W_skip (W_block (W_seq (W_region (L_r (r_mi rfl) ?_)))))
   refine L_r (r_remn rfl rfl (by omega) (by omega)) ?_
   refine L_r (r_add rfl rfl (by first | exact wr_u64 (by omega) | rfl)) ?_
   refine L_r (r_conv Tryz.underlying26 Tryz.underlying5 rfl (by first | exact wr_u8 (by omega) | rfl)) ?_
   refine L_build1 [.int _ _] Tryz.underlying94 rfl rfl rfl (.plain rfl) rfl (by rfl) (by rfl) (by rfl) (fun b14 w2 hb14 hv14 eb2 hs2 c2 => ?_)
   have hB14 : By w2 (.slice (some ⟨b14, 0, none⟩) 1 1) [dgB v] := by
     have e : ([dgB v].map b8) = [.int .u8 (48 + (v : Int) % 10)] := by
       show [Value.int .u8 ((dgB v).toNat : Int)] = _
       unfold dgB
       rw [UInt8.toNat_ofNat']
       congr 2
       omega
     show Sl _ _ 1 1 ([dgB v].map b8)
     rw [e]; exact hv14
   refine L_r (r_bstr Tryz.underlying94 Tryz.underlying5 Tryz.underlying9 (by conv => lhs; whnf) Sl.au) (L_r (r_ms rfl) ?_)
   refine L_r (r_adds rfl rfl (by simp only [ByteArray.size_append, sb_size, List.length_cons, List.length_nil]; omega)) (L_r (r_as rfl) (L_nil (W_region (L_r (r_mi rfl) ?_))))
   refine L_r (r_quon rfl rfl (by omega) (by omega) (by first | exact wr_u64 (by omega) | rfl)) (L_r (r_ai rfl) (L_nil ?_))
   refine ⟨trivial, _, ?_, dgB v :: s, v / 10, (by exact congrArg Value.string ((sb_append [dgB v] s).symm)), (by exact congrArg (Value.int _) (by omega)), ?_, rfl⟩
   · exact dg_meas (by first | exact .inl (hse.1 (by assumption)) | exact .inr (by omega)) hvm
   refine ⟨fun h => absurd h (by simp), fun _ => ?_, by omega, ?_, Ch.au⟩
   ·
    rcases hgo with h | ⟨h, k⟩
    · exact h
    ·
     exfalso
     first | omega | exact h (hse.1 (by assumption))
   ·
    rcases hgo with h | ⟨h, k⟩
    · exact hln h
    ·
     exfalso
     first | omega | exact h (hse.1 (by assumption))
  ·
   refine L_g (r_mi rfl) ?_
   refine L_g (r_gtr rfl rfl) (L_r (r_pf rfl rfl) (L_nil ?_))
   refine W_if rfl (fun h9 => ?_) (fun h9 => ?_)
   ·
    refine W_skip (W_block (W_seq (W_region (L_r (r_mi rfl) ?_))))
    refine L_r (r_remn rfl rfl (by omega) (by omega)) ?_
    refine L_r (r_add rfl rfl (by first | exact wr_u64 (by omega) | rfl)) ?_
    refine L_r (r_conv Tryz.underlying26 Tryz.underlying5 rfl (by first | exact wr_u8 (by omega) | rfl)) ?_
    refine L_build1 [.int _ _] Tryz.underlying94 rfl rfl rfl (.plain rfl) rfl (by rfl) (by rfl) (by rfl) (fun b14 w3 hb14 hv14 eb3 hs3 c3 => ?_)
    have hB14 : By w3 (.slice (some ⟨b14, 0, none⟩) 1 1) [dgB v] := by
      have e : ([dgB v].map b8) = [.int .u8 (48 + (v : Int) % 10)] := by
        show [Value.int .u8 ((dgB v).toNat : Int)] = _
        unfold dgB
        rw [UInt8.toNat_ofNat']
        congr 2
        omega
      show Sl _ _ 1 1 ([dgB v].map b8)
      rw [e]; exact hv14
    refine L_r (r_bstr Tryz.underlying94 Tryz.underlying5 Tryz.underlying9 (by conv => lhs; whnf) Sl.au) (L_r (r_ms rfl) ?_)
    refine L_r (r_adds rfl rfl (by simp only [ByteArray.size_append, sb_size, List.length_cons, List.length_nil]; omega)) (L_r (r_as rfl) (L_nil (W_region (L_r (r_mi rfl) ?_))))
    refine L_r (r_quon rfl rfl (by omega) (by omega) (by first | exact wr_u64 (by omega) | rfl)) (L_r (r_ai rfl) (L_nil ?_))
    refine ⟨trivial, _, ?_, dgB v :: s, v / 10, (by exact congrArg Value.string ((sb_append [dgB v] s).symm)), (by exact congrArg (Value.int _) (by omega)), ?_, rfl⟩
    · exact dg_meas (by first | exact .inl (hse.1 (by assumption)) | exact .inr (by omega)) hvm
    refine ⟨fun h => absurd h (by simp), fun _ => ?_, by omega, ?_, Ch.au⟩
    ·
     rcases hgo with h | ⟨h, k⟩
     · exact h
     ·
      exfalso
      first | omega | exact h (hse.1 (by assumption))
    ·
     rcases hgo with h | ⟨h, k⟩
     · exact hln h
     ·
      exfalso
      first | omega | exact h (hse.1 (by assumption))
   ·
    refine W_exit ?_
    repeat (first | refine blk_hit ?_ | refine blk_miss rfl ?_)
    refine W_seq (W_region (L_r (r_ms rfl) (L_r (r_as rfl) (L_nil (W_ret ?_)))))
    refine ret1 (v := .string _) rfl rfl ?_
    refine ⟨?_, Ch.au⟩
    have hs : s ≠ [] := fun h => h6 (hse.2 h)
    have hd := h2 hs
    rw [ddA, if_pos (by omega)] at hd
    rw [hd]
theorem has_none {s : ByteArray} (h1 : ¬ s = kCall) (h2 : ¬ s = kTick) (h3 : ¬ s = kRest) (h4 : ¬ s = kStep) (h5 : ¬ s = kExp) (h6 : ¬ s = kMake) (h7 : ¬ s = kDel) (h8 : ¬ s = kCopy) (h9 : ¬ s = kLose) (h10 : ¬ s = kTurn) (h11 : ¬ s = kInj) : mtB = hasF s := by
  have h : hasO s = none := by
    unfold hasO
    have : (entT.find? fun e => decide (e.1 = s)) = none := by
      rw [List.find?_eq_none]
      intro e he
      have he2 : e.1 = kCall ∨ e.1 = kTick ∨ e.1 = kStep ∨ e.1 = kRest ∨ e.1 = kExp ∨ e.1 = kMake ∨ e.1 = kDel ∨ e.1 = kCopy ∨ e.1 = kLose ∨ e.1 = kTurn ∨ e.1 = kInj := by
        simp only [entT, List.mem_cons, List.not_mem_nil, or_false] at he
        rcases he with rfl | rfl | rfl | rfl | rfl | rfl | rfl | rfl | rfl | rfl | rfl <;> simp
      rw [decide_eq_true_iff]
      intro k
      rw [k] at he2
      rcases he2 with k | k | k | k | k | k | k | k | k | k | k <;> contradiction
    rw [this]; rfl
  unfold hasF
  rw [h]; rfl
theorem rhas_walk (s : ByteArray) (w0 : World) : Does Tryz.prog 28 #[.string s] w0 (fun r w' => r = .string (hasF s) ∧ Nw w0 w') := by
  refine fn_of (n := 23) (args := [.string s]) Tryz.func28 rfl rfl rfl (W_seq (W_region (L_r (r_as rfl) (L_nil (W_seq (W_seq (W_region (L_r (r_ms rfl) ?_))))))))
  refine L_nil (W_block (W_seq (W_region (L_r (r_eqls rfl rfl) (L_r (r_ab rfl) (L_nil ?_))))))
  refine W_if rfl (fun h4 => ?_) (fun h4 => ?_)
  ·
   refine W_seq (W_region (L_r (r_as rfl) (L_nil (W_ret ?_))))
   refine ret1 (v := .string _) rfl rfl ?_
   refine ⟨congrArg Value.string ?_, Ch.au⟩
   first
   | (have e : s = kCall := by assumption
      rw [e]; rfl)
   | (rcases (by assumption : s = kTick ∨ s = kRest) with e | e <;> (rw [e]; rfl))
   | (have e : s = kStep := by assumption
      rw [e]; rfl)
   | (have e : s = kExp := by assumption
      rw [e]; rfl)
   | (have e : s = kMake := by assumption
      rw [e]; rfl)
   | (rcases (by assumption : s = kDel ∨ s = kCopy ∨ s = kLose) with e | e | e <;> (rw [e]; rfl))
   | (have e : s = kTurn := by assumption
      rw [e]; rfl)
   | (have e : s = kInj := by assumption
      rw [e]; rfl)
   | (have k1 : ¬ (s = kTick ∨ s = kRest) := by assumption
      have k2 : ¬ (s = kDel ∨ s = kCopy ∨ s = kLose) := by assumption
      exact has_none (by assumption) (fun k => k1 (.inl k)) (fun k => k1 (.inr k)) (by assumption) (by assumption) (by assumption) (fun k => k2 (.inl k)) (fun k => k2 (.inr (.inl k))) (fun k => k2 (.inr (.inr k))) (by assumption) (by assumption))
  ·
   refine W_seq (W_seq (W_region (L_r (r_eqls rfl rfl) (L_r (r_ab rfl) (L_nil ?_)))))
   refine W_endF [3] (fun f W => f 6 = .bool (decide (s = kTick ∨ s = kRest)) ∧ (W = w0)) ?_ ?_
   ·
    refine W_if rfl (fun h6 => ?_) (fun h6 => ?_)
    ·
     refine W_skip ?_
     refine ⟨⟨fx2, trivial⟩, (dec_i (by simp_all)), ?_⟩
     rfl
    ·
     refine W_region (L_r (r_eqls rfl rfl) (L_r (r_ab rfl) (L_nil ?_)))
     refine ⟨⟨fx2, trivial⟩, (dec_i (by simp_all)), ?_⟩
     rfl
   rintro gct6 w1 ⟨hf6, hCt6⟩
   refine W_as 6 hf6 rfl ?_
   clear hf6
   subst hCt6
   refine W_if rfl (fun h6 => ?_) (fun h6 => ?_)
   ·
    refine W_seq (W_region (L_r (r_as rfl) (L_nil (W_ret ?_))))
    refine ret1 (v := .string _) rfl rfl ?_
    refine ⟨congrArg Value.string ?_, Ch.au⟩
    first
    | (have e : s = kCall := by assumption
       rw [e]; rfl)
    | (rcases (by assumption : s = kTick ∨ s = kRest) with e | e <;> (rw [e]; rfl))
    | (have e : s = kStep := by assumption
       rw [e]; rfl)
    | (have e : s = kExp := by assumption
       rw [e]; rfl)
    | (have e : s = kMake := by assumption
       rw [e]; rfl)
    | (rcases (by assumption : s = kDel ∨ s = kCopy ∨ s = kLose) with e | e | e <;> (rw [e]; rfl))
    | (have e : s = kTurn := by assumption
       rw [e]; rfl)
    | (have e : s = kInj := by assumption
       rw [e]; rfl)
    | (have k1 : ¬ (s = kTick ∨ s = kRest) := by assumption
       have k2 : ¬ (s = kDel ∨ s = kCopy ∨ s = kLose) := by assumption
       exact has_none (by assumption) (fun k => k1 (.inl k)) (fun k => k1 (.inr k)) (by assumption) (by assumption) (by assumption) (fun k => k2 (.inl k)) (fun k => k2 (.inr (.inl k))) (fun k => k2 (.inr (.inr k))) (by assumption) (by assumption))
   ·
    refine W_seq (W_region (L_r (r_eqls rfl rfl) (L_r (r_ab rfl) (L_nil ?_))))
    refine W_if rfl (fun h9 => ?_) (fun h9 => ?_)
    ·
     refine W_seq (W_region (L_r (r_as rfl) (L_nil (W_ret ?_))))
     refine ret1 (v := .string _) rfl rfl ?_
     refine ⟨congrArg Value.string ?_, Ch.au⟩
     first
     | (have e : s = kCall := by assumption
        rw [e]; rfl)
     | (rcases (by assumption : s = kTick ∨ s = kRest) with e | e <;> (rw [e]; rfl))
     | (have e : s = kStep := by assumption
        rw [e]; rfl)
     | (have e : s = kExp := by assumption
        rw [e]; rfl)
     | (have e : s = kMake := by assumption
        rw [e]; rfl)
     | (rcases (by assumption : s = kDel ∨ s = kCopy ∨ s = kLose) with e | e | e <;> (rw [e]; rfl))
     | (have e : s = kTurn := by assumption
        rw [e]; rfl)
     | (have e : s = kInj := by assumption
        rw [e]; rfl)
     | (have k1 : ¬ (s = kTick ∨ s = kRest) := by assumption
        have k2 : ¬ (s = kDel ∨ s = kCopy ∨ s = kLose) := by assumption
        exact has_none (by assumption) (fun k => k1 (.inl k)) (fun k => k1 (.inr k)) (by assumption) (by assumption) (by assumption) (fun k => k2 (.inl k)) (fun k => k2 (.inr (.inl k))) (fun k => k2 (.inr (.inr k))) (by assumption) (by assumption))
    ·
     refine W_seq (W_region (L_r (r_eqls rfl rfl) (L_r (r_ab rfl) (L_nil ?_))))
     refine W_if rfl (fun h11 => ?_) (fun h11 => ?_)
     ·
      refine W_seq (W_region (L_r (r_as rfl) (L_nil (W_ret ?_))))
      refine ret1 (v := .string _) rfl rfl ?_
      refine ⟨congrArg Value.string ?_, Ch.au⟩
      first
      | (have e : s = kCall := by assumption
         rw [e]; rfl)
      | (rcases (by assumption : s = kTick ∨ s = kRest) with e | e <;> (rw [e]; rfl))
      | (have e : s = kStep := by assumption
         rw [e]; rfl)
      | (have e : s = kExp := by assumption
         rw [e]; rfl)
      | (have e : s = kMake := by assumption
         rw [e]; rfl)
      | (rcases (by assumption : s = kDel ∨ s = kCopy ∨ s = kLose) with e | e | e <;> (rw [e]; rfl))
      | (have e : s = kTurn := by assumption
         rw [e]; rfl)
      | (have e : s = kInj := by assumption
         rw [e]; rfl)
      | (have k1 : ¬ (s = kTick ∨ s = kRest) := by assumption
         have k2 : ¬ (s = kDel ∨ s = kCopy ∨ s = kLose) := by assumption
         exact has_none (by assumption) (fun k => k1 (.inl k)) (fun k => k1 (.inr k)) (by assumption) (by assumption) (by assumption) (fun k => k2 (.inl k)) (fun k => k2 (.inr (.inl k))) (fun k => k2 (.inr (.inr k))) (by assumption) (by assumption))
     ·
      refine W_seq (W_region (L_r (r_eqls rfl rfl) (L_r (r_ab rfl) (L_nil ?_))))
      refine W_if rfl (fun h13 => ?_) (fun h13 => ?_)
      ·
       refine W_seq (W_region (L_r (r_as rfl) (L_nil (W_ret ?_))))
       refine ret1 (v := .string _) rfl rfl ?_
       refine ⟨congrArg Value.string ?_, Ch.au⟩
       first
       | (have e : s = kCall := by assumption
          rw [e]; rfl)
       | (rcases (by assumption : s = kTick ∨ s = kRest) with e | e <;> (rw [e]; rfl))
       | (have e : s = kStep := by assumption
          rw [e]; rfl)
       | (have e : s = kExp := by assumption
          rw [e]; rfl)
       | (have e : s = kMake := by assumption
          rw [e]; rfl)
       | (rcases (by assumption : s = kDel ∨ s = kCopy ∨ s = kLose) with e | e | e <;> (rw [e]; rfl))
       | (have e : s = kTurn := by assumption
          rw [e]; rfl)
       | (have e : s = kInj := by assumption
          rw [e]; rfl)
       | (have k1 : ¬ (s = kTick ∨ s = kRest) := by assumption
          have k2 : ¬ (s = kDel ∨ s = kCopy ∨ s = kLose) := by assumption
          exact has_none (by assumption) (fun k => k1 (.inl k)) (fun k => k1 (.inr k)) (by assumption) (by assumption) (by assumption) (fun k => k2 (.inl k)) (fun k => k2 (.inr (.inl k))) (fun k => k2 (.inr (.inr k))) (by assumption) (by assumption))
      ·
       refine W_seq (W_seq (W_region (L_r (r_eqls rfl rfl) (L_r (r_ab rfl) (L_nil ?_)))))
       refine W_endF [3] (fun f W => f 15 = .bool (decide (s = kDel ∨ s = kCopy ∨ s = kLose)) ∧ (W = w1)) ?_ ?_
       ·
        refine W_if rfl (fun h15 => ?_) (fun h15 => ?_)
        ·
         refine W_skip ?_
         refine ⟨⟨fx2, trivial⟩, (dec_i (by simp_all)), ?_⟩
         rfl
        ·
         refine W_seq (W_region (L_r (r_eqls rfl rfl) (L_r (r_ab rfl) (L_nil ?_))))
         refine W_if rfl (fun h15 => ?_) (fun h15 => ?_)
         ·
          refine W_skip ?_
          refine ⟨⟨fx2, trivial⟩, (dec_i (by simp_all)), ?_⟩
          rfl
         ·
          refine W_region (L_r (r_eqls rfl rfl) (L_r (r_ab rfl) (L_nil ?_)))
          refine ⟨⟨fx2, trivial⟩, (dec_i (by simp_all)), ?_⟩
          rfl
       rintro gct15 w2 ⟨hf15, hCt15⟩
       refine W_as 15 hf15 rfl ?_
       clear hf15
       subst hCt15
       refine W_if rfl (fun h15 => ?_) (fun h15 => ?_)
       ·
        refine W_seq (W_region (L_r (r_as rfl) (L_nil (W_ret ?_))))
        refine ret1 (v := .string _) rfl rfl ?_
        refine ⟨congrArg Value.string ?_, Ch.au⟩
        first
        | (have e : s = kCall := by assumption
           rw [e]; rfl)
        | (rcases (by assumption : s = kTick ∨ s = kRest) with e | e <;> (rw [e]; rfl))
        | (have e : s = kStep := by assumption
           rw [e]; rfl)
        | (have e : s = kExp := by assumption
           rw [e]; rfl)
        | (have e : s = kMake := by assumption
           rw [e]; rfl)
        | (rcases (by assumption : s = kDel ∨ s = kCopy ∨ s = kLose) with e | e | e <;> (rw [e]; rfl))
        | (have e : s = kTurn := by assumption
           rw [e]; rfl)
        | (have e : s = kInj := by assumption
           rw [e]; rfl)
        | (have k1 : ¬ (s = kTick ∨ s = kRest) := by assumption
           have k2 : ¬ (s = kDel ∨ s = kCopy ∨ s = kLose) := by assumption
           exact has_none (by assumption) (fun k => k1 (.inl k)) (fun k => k1 (.inr k)) (by assumption) (by assumption) (by assumption) (fun k => k2 (.inl k)) (fun k => k2 (.inr (.inl k))) (fun k => k2 (.inr (.inr k))) (by assumption) (by assumption))
       ·
        refine W_seq (W_region (L_r (r_eqls rfl rfl) (L_r (r_ab rfl) (L_nil ?_))))
        refine W_if rfl (fun h19 => ?_) (fun h19 => ?_)
        ·
         refine W_seq (W_region (L_r (r_as rfl) (L_nil (W_ret ?_))))
         refine ret1 (v := .string _) rfl rfl ?_
         refine ⟨congrArg Value.string ?_, Ch.au⟩
         first
         | (have e : s = kCall := by assumption
            rw [e]; rfl)
         | (rcases (by assumption : s = kTick ∨ s = kRest) with e | e <;> (rw [e]; rfl))
         | (have e : s = kStep := by assumption
            rw [e]; rfl)
         | (have e : s = kExp := by assumption
            rw [e]; rfl)
         | (have e : s = kMake := by assumption
            rw [e]; rfl)
         | (rcases (by assumption : s = kDel ∨ s = kCopy ∨ s = kLose) with e | e | e <;> (rw [e]; rfl))
         | (have e : s = kTurn := by assumption
            rw [e]; rfl)
         | (have e : s = kInj := by assumption
            rw [e]; rfl)
         | (have k1 : ¬ (s = kTick ∨ s = kRest) := by assumption
            have k2 : ¬ (s = kDel ∨ s = kCopy ∨ s = kLose) := by assumption
            exact has_none (by assumption) (fun k => k1 (.inl k)) (fun k => k1 (.inr k)) (by assumption) (by assumption) (by assumption) (fun k => k2 (.inl k)) (fun k => k2 (.inr (.inl k))) (fun k => k2 (.inr (.inr k))) (by assumption) (by assumption))
        ·
         refine W_seq (W_region (L_r (r_eqls rfl rfl) (L_r (r_ab rfl) (L_nil ?_))))
         refine W_if rfl (fun h21 => ?_) (fun h21 => ?_)
         ·
          refine W_seq (W_region (L_r (r_as rfl) (L_nil (W_ret ?_))))
          refine ret1 (v := .string _) rfl rfl ?_
          refine ⟨congrArg Value.string ?_, Ch.au⟩
          first
          | (have e : s = kCall := by assumption
             rw [e]; rfl)
          | (rcases (by assumption : s = kTick ∨ s = kRest) with e | e <;> (rw [e]; rfl))
          | (have e : s = kStep := by assumption
             rw [e]; rfl)
          | (have e : s = kExp := by assumption
             rw [e]; rfl)
          | (have e : s = kMake := by assumption
             rw [e]; rfl)
          | (rcases (by assumption : s = kDel ∨ s = kCopy ∨ s = kLose) with e | e | e <;> (rw [e]; rfl))
          | (have e : s = kTurn := by assumption
             rw [e]; rfl)
          | (have e : s = kInj := by assumption
             rw [e]; rfl)
          | (have k1 : ¬ (s = kTick ∨ s = kRest) := by assumption
             have k2 : ¬ (s = kDel ∨ s = kCopy ∨ s = kLose) := by assumption
             exact has_none (by assumption) (fun k => k1 (.inl k)) (fun k => k1 (.inr k)) (by assumption) (by assumption) (by assumption) (fun k => k2 (.inl k)) (fun k => k2 (.inr (.inl k))) (fun k => k2 (.inr (.inr k))) (by assumption) (by assumption))
         ·
          refine W_skip (W_seq (W_region (L_r (r_as rfl) (L_nil (W_ret ?_)))))
          refine ret1 (v := .string _) rfl rfl ?_
          refine ⟨congrArg Value.string ?_, Ch.au⟩
          first
          | (have e : s = kCall := by assumption
             rw [e]; rfl)
          | (rcases (by assumption : s = kTick ∨ s = kRest) with e | e <;> (rw [e]; rfl))
          | (have e : s = kStep := by assumption
             rw [e]; rfl)
          | (have e : s = kExp := by assumption
             rw [e]; rfl)
          | (have e : s = kMake := by assumption
             rw [e]; rfl)
          | (rcases (by assumption : s = kDel ∨ s = kCopy ∨ s = kLose) with e | e | e <;> (rw [e]; rfl))
          | (have e : s = kTurn := by assumption
             rw [e]; rfl)
          | (have e : s = kInj := by assumption
             rw [e]; rfl)
          | (have k1 : ¬ (s = kTick ∨ s = kRest) := by assumption
             have k2 : ¬ (s = kDel ∨ s = kCopy ∨ s = kLose) := by assumption
             exact has_none (by assumption) (fun k => k1 (.inl k)) (fun k => k1 (.inr k)) (by assumption) (by assumption) (by assumption) (fun k => k2 (.inl k)) (fun k => k2 (.inr (.inl k))) (fun k => k2 (.inr (.inr k))) (by assumption) (by assumption))
theorem bat_mem {s : ByteArray} {i : Nat} (h : i < s.size) : bat s i ∈ bs s := by
  have hl : i < (bs s).length := by rw [bs_length]; exact h
  have e : bat s i = (bs s)[i] := by show (bs s).getD i 0 = _; rw [List.getD_eq_getElem?_getD, List.getElem?_eq_getElem hl, Option.getD_some]
  rw [e]; exact List.getElem_mem hl
theorem mem_bat {s : ByteArray} {c : UInt8} (h : c ∈ bs s) : ∃ i, i < s.size ∧ bat s i = c := by
  obtain ⟨i, hi, e⟩ := List.mem_iff_getElem.1 h
  refine ⟨i, by rw [bs_length] at hi; exact hi, ?_⟩
  rw [← e]
  show (bs s).getD i 0 = _
  rw [List.getD_eq_getElem?_getD, List.getElem?_eq_getElem hi, Option.getD_some]
theorem rhasc_walk (s : ByteArray) (c : UInt8) (w0 : World) (hs : s.size ≤ 1000000) : Does Tryz.prog 29 #[.string s, .int .u8 (c.toNat : Int)] w0 (fun r w' => r = .bool (decide (c ∈ bs s)) ∧ Nw w0 w') := by
  refine fn_of (n := 17) (args := [.string s, .int .u8 (c.toNat : Int)]) Tryz.func29 rfl rfl rfl (W_seq (W_region (L_r (r_ab rfl) (L_nil (W_seq (W_seq (W_region (L_r (r_ai rfl) ?_))))))))
  refine L_nil (W_block ?_)
  refine W_loopF [0, 1] (fun mz_ f W => ∃ (i : Nat), f 5 = .int .i64 i ∧ (i ≤ s.size ∧ (∀ j, j < i → bat s j ≠ c) ∧ Nw w0 W) ∧ mz_ = s.size - i) ?_ ?_
  ·
   refine ⟨_, 0, rfl, ?_, rfl⟩
   exact ⟨by omega, fun j hj => absurd hj (by omega), Ch.au⟩
  rintro m0 g0 w1 ⟨i, hf5, hR0, rfl⟩
  refine W_as 5 hf5 rfl ?_
  clear hf5
  obtain ⟨hi, hn, hnw⟩ := hR0
  have hz := hnw.size
  refine W_seq (W_seq (W_region (L_r (r_mi rfl) (L_r (r_ms rfl) ?_))))
  refine L_r (r_lens Tryz.underlying9 rfl) (L_r (r_lss rfl rfl) (L_nil ?_))
  refine W_if rfl (fun h9 => ?_) (fun h9 => ?_)
  ·
   refine W_skip (W_seq (W_block (W_seq (W_region (L_r (r_ms rfl) (L_r (r_mi rfl) ?_))))))
   refine L_r (r_indexs Tryz.underlying9 rfl rfl (by omega) (by omega) (by conv => lhs; (try simp only [Nat.mul_one, Nat.zero_add, Int.toNat_natCast, Int.toNat_zero, Int.reduceToNat, Nat.reduceMul, Nat.reduceAdd]))) (L_r (r_mi rfl) (L_r (r_eql rfl rfl) (L_nil ?_)))
   refine W_if rfl (fun h16 => ?_) (fun h16 => ?_)
   ·
    refine W_seq (W_region (L_r (r_ab rfl) (L_nil (W_ret ?_))))
    refine ret1 (v := .bool _) rfl rfl ?_
    refine ⟨?_, Ch.au⟩
    first
    | (have hm := bat_mem (s := s) (i := i) (by omega)
       have e : bat s i = c := UInt8.toNat_inj.1 (by omega)
       rw [e] at hm
       rw [decide_eq_true hm])
    | (rw [decide_eq_false]
       intro hm
       obtain ⟨j, hj, e⟩ := mem_bat hm
       exact hn j (by omega) e)
   ·
    refine W_skip (W_region (L_r (r_mi rfl) ?_))
    refine L_r (r_add rfl rfl (by first | exact wr_i64 (by omega) | rfl)) (L_r (r_ai rfl) (L_nil ?_))
    refine ⟨⟨fx2, fx2, trivial⟩, _, ?_, i + 1, rfl, ?_, rfl⟩
    · omega
    refine ⟨by omega, fun j hj => ?_, Ch.au⟩
    rcases Nat.lt_or_ge j i with h | h
    · exact hn j h
    ·
     have e : j = i := by omega
     subst e
     intro k
     rw [k] at h16
     exact h16 rfl
  ·
   refine W_exit ?_
   repeat (first | refine blk_hit ?_ | refine blk_miss rfl ?_)
   refine W_seq (W_region (L_r (r_ab rfl) (L_nil (W_ret ?_))))
   refine ret1 (v := .bool _) rfl rfl ?_
   refine ⟨?_, Ch.au⟩
   first
   | (have hm := bat_mem (s := s) (i := i) (by omega)
      have e : bat s i = c := UInt8.toNat_inj.1 (by omega)
      rw [e] at hm
      rw [decide_eq_true hm])
   | (rw [decide_eq_false]
      intro hm
      obtain ⟨j, hj, e⟩ := mem_bat hm
      exact hn j (by omega) e)
end Go.Proofs.YtgmeojpekdekeaaGreatDoor

namespace Go.Proofs.YtgmeojpekdekeaaGreatDoor
open Go Go.RowKit
set_option linter.unusedVariables false
set_option linter.unusedSimpArgs false
set_option maxRecDepth 100000
def hxK (x k : Nat) : Nat := if k = 1 then x % 16 else x / 16
theorem hxK_lt {x k : Nat} (h : x < 256) : hxK x k < 16 := by unfold hxK; split <;> omega
theorem hx_take {x k : Nat} (h : k < 2) : [hexD (x / 16), hexD (x % 16)].take (k + 1) = [hexD (x / 16), hexD (x % 16)].take k ++ [hexD (hxK x k)] := by
  have hk : k = 0 ∨ k = 1 := by omega
  rcases hk with rfl | rfl <;> rfl
theorem hexD_low {d : Nat} (h : d < 10) : ((hexD d).toNat : Int) = 48 + d := by
  unfold hexD
  rw [if_pos h, UInt8.toNat_ofNat']; omega
theorem hexD_high {d : Nat} (h : ¬ d < 10) (h2 : d < 16) : ((hexD d).toNat : Int) = 87 + d := by
  unfold hexD
  rw [if_neg h, UInt8.toNat_ofNat']; omega
set_option maxHeartbeats 1000000 in
theorem rhex_walk (s : ByteArray) (w0 : World) (hs : s.size ≤ 1000000) : Does Tryz.prog 46 #[.string s] w0 (fun r w' => r = .string (sb (hexB s)) ∧ Nw w0 w') := by
  refine fn_of (n := 45) (args := [.string s]) Tryz.func46 rfl rfl rfl (W_seq (W_region (L_r (r_as rfl) (L_nil (W_seq (W_seq (W_region (L_r (r_ms rfl) ?_))))))))
  refine L_r (r_eqls rfl rfl) (L_nil ?_)
  refine W_if rfl (fun h8 => ?_) (fun h8 => ?_)
  ·
   refine W_seq (W_region (L_r (r_as rfl) (L_nil (W_ret ?_))))
   refine ret1 (v := .string _) rfl rfl ?_
   refine ⟨?_, Ch.au⟩
   unfold hexB
   first
   | (rw [if_pos (by assumption)]; rfl)
   | (rw [if_neg (by assumption), List.take_of_length_le (by rw [bs_length]; omega)])
  ·
   refine W_skip (W_seq (W_region (L_r (r_as rfl) (L_nil (W_seq (W_seq (W_region (L_r (r_ai rfl) ?_))))))))
   refine L_nil (W_block ?_)
   refine W_loopF [0] (fun mz_ f W => ∃ (i : Nat), f 4 = .int .i64 i ∧ f 3 = .string (sb (hexL ((bs s).take i))) ∧ (i ≤ s.size ∧ Nw w0 W) ∧ mz_ = s.size - i) ?_ ?_
   ·
    refine ⟨_, 0, rfl, rfl, ?_, rfl⟩
    exact ⟨by omega, Ch.au⟩
   rintro m0 g0 w1 ⟨i, hf4, hf3, hR0, rfl⟩
   refine W_as 4 hf4 rfl ?_
   refine W_as 3 hf3 rfl ?_
   clear hf4 hf3
   obtain ⟨hi, hnw⟩ := hR0
   have hz := hnw.size
   refine W_seq (W_seq (W_region (L_r (r_mi rfl) (L_r (r_ms rfl) ?_))))
   refine L_r (r_lens Tryz.underlying9 rfl) (L_r (r_lss rfl rfl) (L_nil ?_))
   refine W_if rfl (fun h12 => ?_) (fun h12 => ?_)
   ·
    have hil : i < s.size := by omega
    have hbi : bat s i = (bs s)[i]'(by rw [bs_length]; exact hil) := by show (bs s).getD i 0 = _; rw [List.getD_eq_getElem?_getD, List.getElem?_eq_getElem (by rw [bs_length]; exact hil), Option.getD_some]
    have hb8 := (bat s i).toNat_lt
    obtain ⟨L, hL⟩ : ∃ L, L = hexL ((bs s).take i) := ⟨_, rfl⟩
    have hLl := hexL_len ((bs s).take i)
    rw [List.length_take, bs_length, ← hL] at hLl
    refine W_skip (W_seq (W_block (W_seq (W_region (L_r (r_ai rfl) (L_nil (W_block ?_)))))))
    refine W_loopF [0, 4] (fun mz_ f W => ∃ (k : Nat), f 5 = .int .i64 k ∧ f 3 = .string (sb (hexL ((bs s).take i) ++ [hexD ((bat s i).toNat / 16), hexD ((bat s i).toNat % 16)].take k)) ∧ (k ≤ 2 ∧ Nw w0 W) ∧ mz_ = 2 - k) ?_ ?_
    ·
     refine ⟨_, 0, rfl, (by refine congrArg Value.string (congrArg sb ?_); simp), ?_, rfl⟩
     exact ⟨by omega, Ch.au⟩
    rintro m1 g1 w2 ⟨k, hf5, hf3, hR1, rfl⟩
    refine W_as 5 hf5 rfl ?_
    refine W_as 3 hf3 rfl ?_
    clear hf5 hf3
    obtain ⟨hk, hnwk⟩ := hR1
    have hzk := hnwk.size
    refine W_seq (W_seq (W_region (L_r (r_mi rfl) (L_r (r_lss rfl rfl) (L_nil ?_)))))
    refine W_if rfl (fun h16 => ?_) (fun h16 => ?_)
    ·
     have hk2 : k < 2 := by omega
     have hPl : (hexL ((bs s).take i) ++ [hexD ((bat s i).toNat / 16), hexD ((bat s i).toNat % 16)].take k).length ≤ 3000000 := by
       rw [List.length_append, List.length_take, ← hL]
       omega
     have hPs := sb_size (hexL ((bs s).take i) ++ [hexD ((bat s i).toNat / 16), hexD ((bat s i).toNat % 16)].take k)
     have hd16 := hxK_lt (x := (bat s i).toNat) (k := k) (by omega)
     have hdd : ((hxK (bat s i).toNat k : Nat) : Int) = if k = 1 then ((bat s i).toNat : Int) % 16 else ((bat s i).toNat : Int) / 16 := by unfold hxK; split <;> simp
     refine W_skip (W_seq (W_block (W_seq (W_region (L_r (r_ms rfl) (L_r (r_mi rfl) ?_))))))
     refine L_r (r_indexs Tryz.underlying9 rfl rfl (by omega) (by omega) (by conv => lhs; (try simp only [Nat.mul_one, Nat.zero_add, Int.toNat_natCast, Int.toNat_zero, Int.reduceToNat, Nat.reduceMul, Nat.reduceAdd]))) ?_
     refine L_r (r_quon rfl rfl (by omega) (by omega) (by first | exact wr_u8 (by omega) | rfl)) (L_r (r_ai rfl) (L_nil (W_seq (W_seq (W_region (L_r (r_mi rfl) (L_r (r_eql rfl rfl) (L_nil ?_))))))))
     refine W_endF [0, 3, 4, 5] (fun f W => f 6 = .int .u8 (hxK (bat s i).toNat k : Nat) ∧ (Nw w0 W)) ?_ ?_
     ·
      refine W_if rfl (fun h24 => ?_) (fun h24 => ?_)
      ·
       refine W_region (L_r (r_ms rfl) (L_r (r_mi rfl) ?_))
       refine L_r (r_indexs Tryz.underlying9 rfl rfl (by omega) (by omega) (by conv => lhs; (try simp only [Nat.mul_one, Nat.zero_add, Int.toNat_natCast, Int.toNat_zero, Int.reduceToNat, Nat.reduceMul, Nat.reduceAdd]))) ?_
       refine L_r (r_remn rfl rfl (by omega) (by omega)) (L_r (r_ai rfl) (L_nil ?_))
       refine ⟨⟨fx2, fx2, fx2, fx2, trivial⟩, (by refine congrArg (Value.int .u8) ?_; rw [hdd]; first | (rw [if_pos (by omega)]; done) | (rw [if_neg (by omega)]; done)), ?_⟩
       exact Ch.au
      ·
       refine W_skip ?_
       refine ⟨⟨fx2, fx2, fx2, fx2, trivial⟩, (by refine congrArg (Value.int .u8) ?_; rw [hdd]; first | (rw [if_pos (by omega)]; done) | (rw [if_neg (by omega)]; done)), ?_⟩
       exact Ch.au
     rintro gct24 w3 ⟨hf6, hCt24⟩
     refine W_as 6 hf6 rfl ?_
     clear hf6
     have hz24 := hCt24.size
     refine W_seq (W_region (L_r (r_mi rfl) (L_r (r_lss rfl rfl) (L_nil ?_))))
     refine W_endF [0, 4, 5] (fun f W => f 3 = .string (sb (hexL ((bs s).take i) ++ [hexD ((bat s i).toNat / 16), hexD ((bat s i).toNat % 16)].take k ++ [hexD (hxK (bat s i).toNat k)])) ∧ (Nw w0 W)) ?_ ?_
     ·
      refine W_if rfl (fun h30 => ?_) (fun h30 => ?_)
      ·
       refine W_region (L_r (r_ms rfl) (L_r (r_mi rfl) ?_))
       refine L_r (r_add rfl rfl (by first | exact wr_u8 (by omega) | rfl)) ?_
       refine L_build1 [.int _ _] Tryz.underlying94 rfl rfl rfl (.plain rfl) rfl (by rfl) (by rfl) (by rfl) (fun b34 w4 hb34 hv34 eb4 hs4 c4 => ?_)
       have hB34 : By w4 (.slice (some ⟨b34, 0, none⟩) 1 1) [hexD (hxK (bat s i).toNat k)] := by
         have e : ([hexD (hxK (bat s i).toNat k)].map b8) = [.int .u8 (48 + (hxK (bat s i).toNat k : Nat))] := by
           show [Value.int .u8 ((hexD (hxK (bat s i).toNat k)).toNat : Int)] = _
           rw [hexD_low (by omega)]
         show Sl _ _ 1 1 ([hexD (hxK (bat s i).toNat k)].map b8)
         rw [e]; exact hv34
       refine L_r (r_bstr Tryz.underlying94 Tryz.underlying5 Tryz.underlying9 (by conv => lhs; whnf) Sl.au) ?_
       refine L_r (r_adds rfl rfl (by simp only [sb_size, List.length_cons, List.length_nil]; omega)) (L_r (r_as rfl) (L_nil ?_))
       refine ⟨⟨fx2, fx2, fx2, trivial⟩, (by exact congrArg Value.string (sb_append _ _).symm), ?_⟩
       exact Ch.au
      ·
       refine W_region (L_r (r_ms rfl) (L_r (r_mi rfl) ?_))
       refine L_r (r_add rfl rfl (by first | exact wr_u8 (by omega) | rfl)) ?_
       refine L_r (r_sub rfl rfl (by first | exact wr_u8 (by omega) | rfl)) ?_
       refine L_build1 [.int _ _] Tryz.underlying94 rfl rfl rfl (.plain rfl) rfl (by rfl) (by rfl) (by rfl) (fun b41 w5 hb41 hv41 eb5 hs5 c5 => ?_)
       have hB41 : By w5 (.slice (some ⟨b41, 0, none⟩) 1 1) [hexD (hxK (bat s i).toNat k)] := by
         have e : ([hexD (hxK (bat s i).toNat k)].map b8) = [.int .u8 (97 + (hxK (bat s i).toNat k : Nat) - 10)] := by
           show [Value.int .u8 ((hexD (hxK (bat s i).toNat k)).toNat : Int)] = _
           rw [hexD_high (by omega) hd16]
           congr 2; omega
         show Sl _ _ 1 1 ([hexD (hxK (bat s i).toNat k)].map b8)
         rw [e]; exact hv41
       refine L_r (r_bstr Tryz.underlying94 Tryz.underlying5 Tryz.underlying9 (by conv => lhs; whnf) Sl.au) ?_
       refine L_r (r_adds rfl rfl (by simp only [sb_size, List.length_cons, List.length_nil]; omega)) (L_r (r_as rfl) (L_nil ?_))
       refine ⟨⟨fx2, fx2, fx2, trivial⟩, (by exact congrArg Value.string (sb_append _ _).symm), ?_⟩
       exact Ch.au
     rintro gct30 w6 ⟨hf3, hCt30⟩
     refine W_as 3 hf3 rfl ?_
     clear hf3
     have hz30 := hCt30.size
     refine W_region (L_r (r_mi rfl) ?_)
     refine L_r (r_add rfl rfl (by first | exact wr_i64 (by omega) | rfl)) (L_r (r_ai rfl) (L_nil ?_))
     refine ⟨⟨fx2, fx2, trivial⟩, _, ?_, k + 1, rfl, (by refine congrArg Value.string (congrArg sb ?_); rw [hx_take hk2, ← List.append_assoc]), ?_, rfl⟩
     · omega
     exact ⟨by omega, Ch.au⟩
    ·
     refine W_exit ?_
     repeat (first | refine blk_hit ?_ | refine blk_miss rfl ?_)
     refine W_region (L_r (r_mi rfl) ?_)
     refine L_r (r_add rfl rfl (by first | exact wr_i64 (by omega) | rfl)) (L_r (r_ai rfl) (L_nil ?_))
     refine ⟨⟨fx2, trivial⟩, _, ?_, i + 1, rfl, (by refine congrArg Value.string (congrArg sb ?_); rw [hexL_take (by rw [bs_length]; exact hil), ← hbi, show k = 2 by omega]; simp), ?_, rfl⟩
     · omega
     exact ⟨by omega, Ch.au⟩
   ·
    refine W_exit ?_
    repeat (first | refine blk_hit ?_ | refine blk_miss rfl ?_)
    refine W_seq (W_region (L_r (r_ms rfl) (L_r (r_as rfl) (L_nil (W_ret ?_)))))
    refine ret1 (v := .string _) rfl rfl ?_
    refine ⟨?_, Ch.au⟩
    unfold hexB
    first
    | (rw [if_pos (by assumption)]; rfl)
    | (rw [if_neg (by assumption), List.take_of_length_le (by rw [bs_length]; omega)])
theorem rvalue_walk (v : Va) (w0 : World) (hs : v.s.size ≤ 1000000) (hn : -9223372036854775808 ≤ v.n ∧ v.n ≤ 9223372036854775807) (hr : -9223372036854775808 ≤ v.ref ∧ v.ref ≤ 9223372036854775807) : Does Tryz.prog 45 #[v.v] w0 (fun r w' => r = .string (sb (valB v)) ∧ Nw w0 w') := by
  have e58 : ({ data := #[58] } : ByteArray).size = 1 := rfl
  have e64 : ({ data := #[64] } : ByteArray).size = 1 := rfl
  have hxb := hexB_len v.s
  have hxs := sb_size (hexB v.s)
  have his := itoa_len hr
  have hit := sb_size (Lib.itoa v.ref)
  refine fn_of (n := 27) (args := [v.v]) Tryz.func45 rfl rfl rfl (W_seq (W_region ?_))
  refine L_new (.plain rfl) rfl rfl (r_boxa rfl) (fun w1 b1 hb1 eb1 hs1 c1 => (L_r (r_as rfl) (L_nil (W_seq (W_seq (W_region ?_))))))
  refine L_r (r_fieldb Tryz.underlying43 rfl (show _ = some 1 from rfl) rfl rfl (show _ = 0 from rfl)) (L_r (r_lb rfl rfl) (L_nil (W_block (W_seq (W_region (L_r (r_eql rfl rfl) (L_r (r_ab rfl) (L_nil ?_))))))))
  refine W_if rfl (fun h5 => ?_) (fun h5 => ?_)
  ·
   refine W_seq (W_region ?_)
   refine L_r (r_fieldb Tryz.underlying43 rfl (show _ = some 1 from rfl) rfl rfl (show _ = 1 from rfl)) (L_r (r_lb rfl rfl) ?_)
   refine L_call (.plain rfl) rfl rfl (r_call Tryz.func43 rfl rfl rfl (by rfl)) (rdigits_walk v.n _ hn) ?_
   rintro v9 w2 ⟨rfl, c2⟩
   have hz2 := c2.size
   refine L_r (r_as rfl) (L_nil (W_ret ?_))
   refine ret1 (v := .string _) rfl rfl ?_
   refine ⟨?_, Ch.au⟩
   unfold valB
   first
   | (rw [if_pos (by assumption)]; done)
   | (conv => rhs; rw [if_neg (by assumption), if_pos (by assumption)]
      first | (rw [if_pos (by assumption)]; rfl) | (rw [if_neg (by assumption)]; rfl))
   | (rw [if_neg (by assumption), if_neg (by assumption), if_pos (by assumption)]; exact congrArg Value.string (sb_append [58] (hexB v.s)).symm)
   | (rw [if_neg (by assumption), if_neg (by assumption), if_neg (by assumption), if_pos (by assumption)]; exact congrArg Value.string (sb_append [64] (Lib.itoa v.ref)).symm)
   | (rw [if_neg (by assumption), if_neg (by assumption), if_neg (by assumption), if_neg (by assumption)]; rfl)
  ·
   refine W_seq (W_region (L_r (r_eql rfl rfl) (L_r (r_ab rfl) (L_nil ?_))))
   refine W_if rfl (fun h10 => ?_) (fun h10 => ?_)
   ·
    refine W_seq (W_seq (W_region ?_))
    refine L_r (r_fieldb Tryz.underlying43 rfl (show _ = some 1 from rfl) rfl rfl (show _ = 1 from rfl)) (L_r (r_lb rfl rfl) (L_r (r_eql rfl rfl) (L_nil ?_)))
    refine W_if rfl (fun h14 => ?_) (fun h14 => ?_)
    ·
     refine W_seq (W_region (L_r (r_as rfl) (L_nil (W_ret ?_))))
     refine ret1 (v := .string _) rfl rfl ?_
     refine ⟨?_, Ch.au⟩
     unfold valB
     first
     | (rw [if_pos (by assumption)]; done)
     | (conv => rhs; rw [if_neg (by assumption), if_pos (by assumption)]
        first | (rw [if_pos (by assumption)]; rfl) | (rw [if_neg (by assumption)]; rfl))
     | (rw [if_neg (by assumption), if_neg (by assumption), if_pos (by assumption)]; exact congrArg Value.string (sb_append [58] (hexB v.s)).symm)
     | (rw [if_neg (by assumption), if_neg (by assumption), if_neg (by assumption), if_pos (by assumption)]; exact congrArg Value.string (sb_append [64] (Lib.itoa v.ref)).symm)
     | (rw [if_neg (by assumption), if_neg (by assumption), if_neg (by assumption), if_neg (by assumption)]; rfl)
    ·
     refine W_skip (W_seq (W_region (L_r (r_as rfl) (L_nil (W_ret ?_)))))
     refine ret1 (v := .string _) rfl rfl ?_
     refine ⟨?_, Ch.au⟩
     unfold valB
     first
     | (rw [if_pos (by assumption)]; done)
     | (conv => rhs; rw [if_neg (by assumption), if_pos (by assumption)]
        first | (rw [if_pos (by assumption)]; rfl) | (rw [if_neg (by assumption)]; rfl))
     | (rw [if_neg (by assumption), if_neg (by assumption), if_pos (by assumption)]; exact congrArg Value.string (sb_append [58] (hexB v.s)).symm)
     | (rw [if_neg (by assumption), if_neg (by assumption), if_neg (by assumption), if_pos (by assumption)]; exact congrArg Value.string (sb_append [64] (Lib.itoa v.ref)).symm)
     | (rw [if_neg (by assumption), if_neg (by assumption), if_neg (by assumption), if_neg (by assumption)]; rfl)
   ·
    refine W_seq (W_region (L_r (r_eql rfl rfl) (L_r (r_ab rfl) (L_nil ?_))))
    refine W_if rfl (fun h15 => ?_) (fun h15 => ?_)
    ·
     refine W_seq (W_region ?_)
     refine L_r (r_fieldb Tryz.underlying43 rfl (show _ = some 1 from rfl) rfl rfl (show _ = 2 from rfl)) (L_r (r_lb rfl rfl) ?_)
     refine L_call (.plain rfl) rfl rfl (r_call Tryz.func46 rfl rfl rfl (by rfl)) (rhex_walk v.s _ hs) ?_
     rintro v19 w3 ⟨rfl, c3⟩
     have hz3 := c3.size
     refine L_r (r_adds rfl rfl (by first | omega | (simp only [ByteArray.size_append]; omega))) (L_r (r_as rfl) (L_nil (W_ret ?_)))
     refine ret1 (v := .string _) rfl rfl ?_
     refine ⟨?_, Ch.au⟩
     unfold valB
     first
     | (rw [if_pos (by assumption)]; done)
     | (conv => rhs; rw [if_neg (by assumption), if_pos (by assumption)]
        first | (rw [if_pos (by assumption)]; rfl) | (rw [if_neg (by assumption)]; rfl))
     | (rw [if_neg (by assumption), if_neg (by assumption), if_pos (by assumption)]; exact congrArg Value.string (sb_append [58] (hexB v.s)).symm)
     | (rw [if_neg (by assumption), if_neg (by assumption), if_neg (by assumption), if_pos (by assumption)]; exact congrArg Value.string (sb_append [64] (Lib.itoa v.ref)).symm)
     | (rw [if_neg (by assumption), if_neg (by assumption), if_neg (by assumption), if_neg (by assumption)]; rfl)
    ·
     refine W_seq (W_region (L_r (r_eql rfl rfl) (L_r (r_ab rfl) (L_nil ?_))))
     refine W_if rfl (fun h21 => ?_) (fun h21 => ?_)
     ·
      refine W_seq (W_region ?_)
      refine L_r (r_fieldb Tryz.underlying43 rfl (show _ = some 1 from rfl) rfl rfl (show _ = 3 from rfl)) (L_r (r_lb rfl rfl) ?_)
      refine L_call (.plain rfl) rfl rfl (r_call Tryz.func43 rfl rfl rfl (by rfl)) (rdigits_walk v.ref _ hr) ?_
      rintro v25 w4 ⟨rfl, c4⟩
      have hz4 := c4.size
      refine L_r (r_adds rfl rfl (by first | omega | (simp only [ByteArray.size_append]; omega))) (L_r (r_as rfl) (L_nil (W_ret ?_)))
      refine ret1 (v := .string _) rfl rfl ?_
      refine ⟨?_, Ch.au⟩
      unfold valB
      first
      | (rw [if_pos (by assumption)]; done)
      | (conv => rhs; rw [if_neg (by assumption), if_pos (by assumption)]
         first | (rw [if_pos (by assumption)]; rfl) | (rw [if_neg (by assumption)]; rfl))
      | (rw [if_neg (by assumption), if_neg (by assumption), if_pos (by assumption)]; exact congrArg Value.string (sb_append [58] (hexB v.s)).symm)
      | (rw [if_neg (by assumption), if_neg (by assumption), if_neg (by assumption), if_pos (by assumption)]; exact congrArg Value.string (sb_append [64] (Lib.itoa v.ref)).symm)
      | (rw [if_neg (by assumption), if_neg (by assumption), if_neg (by assumption), if_neg (by assumption)]; rfl)
     ·
      refine W_skip (W_seq (W_region (L_r (r_as rfl) (L_nil (W_ret ?_)))))
      refine ret1 (v := .string _) rfl rfl ?_
      refine ⟨?_, Ch.au⟩
      unfold valB
      first
      | (rw [if_pos (by assumption)]; done)
      | (conv => rhs; rw [if_neg (by assumption), if_pos (by assumption)]
         first | (rw [if_pos (by assumption)]; rfl) | (rw [if_neg (by assumption)]; rfl))
      | (rw [if_neg (by assumption), if_neg (by assumption), if_pos (by assumption)]; exact congrArg Value.string (sb_append [58] (hexB v.s)).symm)
      | (rw [if_neg (by assumption), if_neg (by assumption), if_neg (by assumption), if_pos (by assumption)]; exact congrArg Value.string (sb_append [64] (Lib.itoa v.ref)).symm)
      | (rw [if_neg (by assumption), if_neg (by assumption), if_neg (by assumption), if_neg (by assumption)]; rfl)
end Go.Proofs.YtgmeojpekdekeaaGreatDoor

namespace Go.Proofs.YtgmeojpekdekeaaGreatDoor
open Go Go.RowKit
set_option linter.unusedVariables false
set_option linter.unusedSimpArgs false
set_option maxRecDepth 100000
def got1 (side : Int) (g : Gt) : List UInt8 := [103, 111, 116, 32] ++ Lib.itoa side ++ [32] ++ Lib.decDigits g.life ++ [32] ++ Lib.decDigits g.seq
def got2 (g : Gt) : List UInt8 := if g.way = 0 then [32, 118, 97, 108, 117, 101, 32] ++ valB g.v else if g.way = 1 then [32, 116, 104, 114, 111, 119, 110, 32] ++ hexB g.body else if g.way = 2 then [32, 114, 101, 102, 117, 115, 101, 100, 32] ++ hexB g.body else [32, 110, 111, 116, 104, 105, 110, 103]
theorem gotB_eq (side : Int) (g : Gt) : gotB side g = got1 side g ++ got2 g ++ [10] := rfl
def repB (side : Int) (z : List Gt) : List UInt8 := z.flatMap (gotB side)
theorem repB_take {side : Int} {z : List Gt} {i : Nat} (h : i < z.length) : repB side (z.take (i + 1)) = repB side (z.take i) ++ got1 side z[i] ++ got2 z[i] ++ [10] := by
  unfold repB
  rw [List.take_succ_eq_append_getElem h, List.flatMap_append]
  simp [gotB_eq]
theorem got_1 (R : List UInt8) (side : Int) (g : Gt) : sb R ++ ((({ data := #[103, 111, 116, 32] } : ByteArray) ++ sb (Lib.itoa side)) ++ { data := #[32] } ++ sb (Lib.decDigits g.life) ++ { data := #[32] } ++ sb (Lib.decDigits g.seq)) = sb (R ++ got1 side g) := by
  unfold got1
  simp only [sb_append]
  rfl
theorem got_2 (R : List UInt8) (a b : List UInt8) : sb R ++ (sb a ++ sb b) = sb (R ++ (a ++ b)) := by rw [sb_append, sb_append]
theorem got_3 (R a b c : List UInt8) : sb (R ++ a ++ b ++ c) = sb (R ++ a ++ b) ++ sb c := sb_append _ _
/-- What the statement's guard and the kinds ask of an outcome. -/
def gtP (g : Gt) : Prop := g.life ≤ 18446744073709551615 ∧ g.seq ≤ 18446744073709551615 ∧ g.body.size ≤ 300 ∧ g.v.s.size ≤ 300 ∧ (-9223372036854775808 ≤ g.v.n ∧ g.v.n ≤ 9223372036854775807) ∧ (-9223372036854775808 ≤ g.v.ref ∧ g.v.ref ≤ 9223372036854775807) ∧ (-9223372036854775808 ≤ g.way ∧ g.way ≤ 9223372036854775807)
theorem valB_len (v : Va) (hn : -9223372036854775808 ≤ v.n ∧ v.n ≤ 9223372036854775807) (hr : -9223372036854775808 ≤ v.ref ∧ v.ref ≤ 9223372036854775807) : (valB v).length ≤ 2 * v.s.size + 30 := by
  have h1 := itoa_len hn
  have h2 := itoa_len hr
  have h3 := hexB_len v.s
  unfold valB
  split
  · omega
  ·
   split
   · split <;> (simp only [List.length_cons, List.length_nil]; omega)
   ·
    split
    · rw [List.length_cons]; omega
    ·
     split
     · rw [List.length_cons]; omega
     · simp only [List.length_cons, List.length_nil]; omega
theorem got1_len {side : Int} (hs : -9223372036854775808 ≤ side ∧ side ≤ 9223372036854775807) (g : Gt) (h1 : g.life ≤ 18446744073709551615) (h2 : g.seq ≤ 18446744073709551615) : (got1 side g).length ≤ 70 := by
  have a := itoa_len hs
  have b := digits_len g.life h1
  have c := digits_len g.seq h2
  unfold got1
  simp only [List.length_append, List.length_cons, List.length_nil]
  omega
theorem got2_len (g : Gt) (h3 : g.body.size ≤ 300) (h4 : g.v.s.size ≤ 300) (h5 : -9223372036854775808 ≤ g.v.n ∧ g.v.n ≤ 9223372036854775807) (h6 : -9223372036854775808 ≤ g.v.ref ∧ g.v.ref ≤ 9223372036854775807) : (got2 g).length ≤ 700 := by
  have a := valB_len g.v h5 h6
  have b := hexB_len g.body
  unfold got2
  split
  · simp only [List.length_append, List.length_cons, List.length_nil]; omega
  ·
   split
   · simp only [List.length_append, List.length_cons, List.length_nil]; omega
   ·
    split
    · simp only [List.length_append, List.length_cons, List.length_nil]; omega
    · simp
theorem repB_len (side : Int) : ∀ (z : List Gt), (-9223372036854775808 ≤ side ∧ side ≤ 9223372036854775807) → (∀ g ∈ z, gtP g) → (repB side z).length ≤ 800 * z.length
  | [], _, _ => by simp [repB]
  | g :: z, hs, h => by
    have ih := repB_len side z hs fun x hx => h x (List.mem_cons_of_mem _ hx)
    obtain ⟨h1, h2, h3, h4, h5, h6, _⟩ := h g List.mem_cons_self
    have a := got1_len hs g h1 h2
    have b := got2_len g h3 h4 h5 h6
    unfold repB at ih ⊢
    rw [List.flatMap_cons, List.length_append, gotB_eq, List.length_append, List.length_append, List.length_cons]
    simp only [List.length_cons, List.length_nil]
    omega
set_option maxHeartbeats 2000000 in
theorem srep_walk (base : Nat) (v : Value) (side : Int) (z : List Gt) (w0 : World) (hv : Sl w0 v 8 z.length (cellsGt z)) (hl : z.length ≤ 50) (hz : ∀ g ∈ z, gtP g) (hsd : -9223372036854775808 ≤ side ∧ side ≤ 9223372036854775807) (hV : Sv base w0) (hb : base ≤ w0.heap.size) : Does Tryz.prog 16 #[.int .i64 side, v] w0 (fun r w' => r = .string (sb (repB side z)) ∧ Nw w0 w') := by
  have hsl := itoa_len hsd
  have hss := sb_size (Lib.itoa side)
  have q1 : ({ data := #[103, 111, 116, 32] } : ByteArray).size = 4 := rfl
  have q2 : ({ data := #[32] } : ByteArray).size = 1 := rfl
  have q3 : ({ data := #[10] } : ByteArray).size = 1 := rfl
  have q4 : ({ data := #[32, 118, 97, 108, 117, 101, 32] } : ByteArray).size = 7 := rfl
  have q5 : ({ data := #[32, 116, 104, 114, 111, 119, 110, 32] } : ByteArray).size = 8 := rfl
  have q6 : ({ data := #[32, 114, 101, 102, 117, 115, 101, 100, 32] } : ByteArray).size = 9 := rfl
  have q7 : ({ data := #[32, 110, 111, 116, 104, 105, 110, 103] } : ByteArray).size = 8 := rfl
  refine fn_of (n := 61) (args := [.int .i64 side, v]) Tryz.func16 rfl rfl rfl (W_seq (W_region (L_r (r_as rfl) (L_nil (W_seq (W_region (L_r (r_as rfl) (L_nil ?_))))))))
  refine W_seq (W_seq (W_region (L_r (r_mv) ?_)))
  refine L_r (r_lenSl Tryz.underlying41 (by conv => lhs; whnf) Sl.au) (L_r (r_mi rfl) (L_nil (W_block ?_)))
  refine W_loopF [0, 8, 9] (fun mz_ f W => ∃ (i : Nat), f 10 = .int .i64 i ∧ f 5 = .string (sb (repB side (z.take i))) ∧ (i ≤ z.length ∧ Nw w0 W) ∧ mz_ = z.length - i) ?_ ?_
  ·
   refine ⟨_, 0, rfl, rfl, ?_, rfl⟩
   exact ⟨by omega, Ch.au⟩
  rintro m0 g0 w1 ⟨i, hf10, hf5, hR0, rfl⟩
  refine W_as 10 hf10 rfl ?_
  refine W_as 5 hf5 rfl ?_
  clear hf10 hf5
  obtain ⟨hi, hnw⟩ := hR0
  have hzz := hnw.size
  refine W_seq (W_region (L_r (r_lss rfl rfl) (L_nil (W_seq ?_))))
  refine W_if rfl (fun h11 => ?_) (fun h11 => ?_)
  ·
   have hil : i < z.length := by omega
   have hrow := cellsGt_row z i hil
   have hxm := List.getElem_mem hil
   obtain ⟨x, hx⟩ : ∃ x, x = z[i] := ⟨_, rfl⟩
   rw [← hx] at hrow hxm
   obtain ⟨hx1, hx2, hx3, hx4, hx5, hx6, hx7⟩ := hz x hxm
   have hRl := repB_len side (z.take i) hsd (fun g hg => hz g (List.mem_of_mem_take hg))
   rw [List.length_take] at hRl
   have hRs := sb_size (repB side (z.take i))
   have hd1 := digits_len x.life hx1
   have hd2 := digits_len x.seq hx2
   have hs1 := sb_size (Lib.decDigits x.life)
   have hs2 := sb_size (Lib.decDigits x.seq)
   have hvl := valB_len x.v hx5 hx6
   have hvs := sb_size (valB x.v)
   have hhl := hexB_len x.body
   have hhs := sb_size (hexB x.body)
   have hp1 := sb_size (repB side (z.take i) ++ got1 side x)
   have hp1l : (repB side (z.take i) ++ got1 side x).length ≤ 45000 := by rw [List.length_append]; have := got1_len hsd x hx1 hx2; omega
   have hp2 := sb_size (repB side (z.take i) ++ got1 side x ++ got2 x)
   have hp2l : (repB side (z.take i) ++ got1 side x ++ got2 x).length ≤ 50000 := by rw [List.length_append]; have := got2_len x hx3 hx4 hx5 hx6; omega
   refine W_skip (W_seq (W_block (W_seq (W_region ?_))))
   refine L_r (r_ix Tryz.underlying41 (show _ = some 8 from rfl) (by conv => lhs; whnf) rfl Sl.au) ?_
   refine L_r (r_loadSlrow (us := [.int .u64 (x.life : Int), .int .u64 (x.seq : Int), .int .i64 x.way, .int .i64 x.v.sort, .int .i64 x.v.n, .string x.v.s, .int .i64 x.v.ref, .string x.body]) Tryz.underlying45 rfl rfl rfl rfl Sl.au (by exact hrow)) ?_
   refine L_new (.plain rfl) rfl rfl (r_alloca rfl) (fun w2 b7 hb7 eb2 hs2 c2 => ?_)
   refine L_storerow (.plain rfl) rfl rfl Bk.au (by first | rfl | (simp; done) | assumption) (by first | rfl | assumption) (by first | rfl | (simp [Value.oneCell']; done) | assumption) (fun w3 hb3 hs3 c3 => (L_nil ?_))
   refine W_cutF [0, 7, 8, 9, 10] (fun f W => f 5 = .string (sb (repB side (z.take i) ++ got1 side x)) ∧ (Bk W b7 #[.int .u64 (x.life : Int), .int .u64 (x.seq : Int), .int .i64 x.way, .int .i64 x.v.sort, .int .i64 x.v.n, .string x.v.s, .int .i64 x.v.ref, .string x.body] 45 ∧ Nw w0 W)) ?_ ?_
   ·
    refine W_draw (fun W => Bk W b7 #[.int .u64 (x.life : Int), .int .u64 (x.seq : Int), .int .i64 x.way, .int .i64 x.v.sort, .int .i64 x.v.n, .string x.v.s, .int .i64 x.v.ref, .string x.body] 45) 16 (m := 16) (by kernel_rfl) rfl (fun w4 c4 hs4 => ?_)
    refine held Bk.au (fun hS => ?_)
    refine D_t 0 rfl (fun W hW => r_ms rfl) ?_
    refine D_t 1 rfl (fun W hW => r_mi rfl) ?_
    refine D_t 5 rfl (fun W hW => r_fieldb Tryz.underlying45 rfl (show _ = some 1 from rfl) rfl rfl (show _ = 0 from rfl)) ?_
    refine D_t 6 rfl (fun W hW => r_loadb rfl rfl (by exact hW) (by first | assumption | (conv => lhs; simp only [List.getElem?_toArray, List.getElem?_cons_succ, List.getElem?_cons_zero]))) ?_
    refine D_t 10 rfl (fun W hW => r_fieldb Tryz.underlying45 rfl (show _ = some 1 from rfl) rfl rfl (show _ = 1 from rfl)) ?_
    refine D_t 11 rfl (fun W hW => r_loadb rfl rfl (by exact hW) (by first | assumption | (conv => lhs; simp only [List.getElem?_toArray, List.getElem?_cons_succ, List.getElem?_cons_zero]))) ?_
    refine D_ev 2 (by kernel_rfl) rfl ?_
    refine L_call (.plain rfl) rfl rfl (r_call Tryz.func39 rfl rfl rfl (by rfl)) (sitoa_walk base side _ hsd (hV.nw Ch.au hb) (by omega)) ?_
    rintro v16 w5 ⟨rfl, c5⟩
    have hz5 := c5.size
    refine L_nil ?_
    refine heldK Bk.au (fun hS => ?_)
    refine D_t 3 rfl (fun W hW => r_adds rfl rfl (by first | omega | (simp only [ByteArray.size_append]; omega))) ?_
    refine D_t 4 rfl (fun W hW => r_adds rfl rfl (by first | omega | (simp only [ByteArray.size_append]; omega))) ?_
    refine D_ev 7 (by kernel_rfl) rfl ?_
    refine L_call (.plain rfl) rfl rfl (r_call Tryz.func40 rfl rfl rfl (by rfl)) (fuint_walk base x.life _ hx1 (hV.nw Ch.au hb) (by omega)) ?_
    rintro v21 w6 ⟨rfl, c6⟩
    have hz6 := c6.size
    refine L_nil ?_
    refine heldK Bk.au (fun hS => ?_)
    refine D_t 8 rfl (fun W hW => r_adds rfl rfl (by first | omega | (simp only [ByteArray.size_append]; omega))) ?_
    refine D_t 9 rfl (fun W hW => r_adds rfl rfl (by first | omega | (simp only [ByteArray.size_append]; omega))) ?_
    refine D_ev 12 (by kernel_rfl) rfl ?_
    refine L_call (.plain rfl) rfl rfl (r_call Tryz.func40 rfl rfl rfl (by rfl)) (fuint_walk base x.seq _ hx2 (hV.nw Ch.au hb) (by omega)) ?_
    rintro v26 w7 ⟨rfl, c7⟩
    have hz7 := c7.size
    refine L_nil ?_
    refine heldK Bk.au (fun hS => ?_)
    refine D_t 13 rfl (fun W hW => r_adds rfl rfl (by first | omega | (simp only [ByteArray.size_append]; omega))) ?_
    refine D_t 14 rfl (fun W hW => r_adds rfl rfl (by first | omega | (simp only [ByteArray.size_append]; omega))) ?_
    refine D_t 15 rfl (fun W hW => r_as rfl) ?_
    refine D_done (by kernel_rfl) ?_
    refine ⟨⟨fx2, fx2, fx2, fx2, fx2, trivial⟩, (by exact congrArg Value.string (got_1 _ _ _)), ?_⟩
    exact ⟨Bk.au, Ch.au⟩
   rintro gcr5 w8 ⟨hf5, hCr5⟩
   refine W_as 5 hf5 rfl ?_
   clear hf5
   obtain ⟨hb7, hnw1⟩ := hCr5
   have hz1 := hnw1.size
   refine W_seq (W_seq (W_region ?_))
   refine L_r (r_fieldb Tryz.underlying45 rfl (show _ = some 1 from rfl) rfl rfl (show _ = 2 from rfl)) (L_r (r_lb rfl rfl) (L_nil ?_))
   refine W_endF [0, 8, 9, 10] (fun f W => f 5 = .string (sb (repB side (z.take i) ++ got1 side x ++ got2 x)) ∧ (Nw w0 W)) ?_ ?_
   ·
    refine W_block (W_seq (W_region (L_r (r_eql rfl rfl) (L_r (r_ab rfl) (L_nil ?_)))))
    refine W_if rfl (fun h33 => ?_) (fun h33 => ?_)
    ·
     refine W_region (L_r (r_ms rfl) ?_)
     refine L_r (r_fieldb Tryz.underlying45 rfl (show _ = some 4 from rfl) rfl rfl (show _ = 3 from rfl)) ?_
     refine L_r (r_loadsub (us := [.int _ _, .int _ _, .string _, .int _ _]) Tryz.underlying43 rfl (show _ = some 4 from rfl) rfl Bk.au rfl rfl) ?_
     refine L_call (.plain rfl) rfl rfl (r_call Tryz.func41 rfl rfl rfl (by rfl)) (svalue_walk base x.v _ (by omega) hx5 hx6 (hV.nw Ch.au hb) (by omega)) ?_
     rintro v38 w9 ⟨rfl, c9⟩
     have hz9 := c9.size
     refine L_r (r_adds rfl rfl (by first | omega | (simp only [ByteArray.size_append]; omega))) ?_
     refine L_r (r_adds rfl rfl (by first | omega | (simp only [ByteArray.size_append]; omega))) (L_r (r_as rfl) (L_nil ?_))
     refine ⟨⟨fx2, fx2, fx2, fx2, trivial⟩, (by refine congrArg Value.string ?_; unfold got2; first | (rw [if_pos (by assumption)]; exact got_2 _ _ _) | (rw [if_neg (by assumption), if_pos (by assumption)]; exact got_2 _ _ _) | (rw [if_neg (by assumption), if_neg (by assumption), if_pos (by assumption)]; exact got_2 _ _ _) | (rw [if_neg (by assumption), if_neg (by assumption), if_neg (by assumption)]; exact (sb_append _ _).symm)), ?_⟩
     exact Ch.au
    ·
     refine W_seq (W_region (L_r (r_eql rfl rfl) (L_r (r_ab rfl) (L_nil ?_))))
     refine W_if rfl (fun h41 => ?_) (fun h41 => ?_)
     ·
      refine W_region (L_r (r_ms rfl) ?_)
      refine L_r (r_fieldb Tryz.underlying45 rfl (show _ = some 1 from rfl) rfl rfl (show _ = 7 from rfl)) (L_r (r_lb rfl rfl) ?_)
      refine L_call (.plain rfl) rfl rfl (r_call Tryz.func42 rfl rfl rfl (by rfl)) (shex_walk x.body _ (by omega)) ?_
      rintro v46 w10 ⟨rfl, c10⟩
      have hz10 := c10.size
      refine L_r (r_adds rfl rfl (by first | omega | (simp only [ByteArray.size_append]; omega))) ?_
      refine L_r (r_adds rfl rfl (by first | omega | (simp only [ByteArray.size_append]; omega))) (L_r (r_as rfl) (L_nil ?_))
      refine ⟨⟨fx2, fx2, fx2, fx2, trivial⟩, (by refine congrArg Value.string ?_; unfold got2; first | (rw [if_pos (by assumption)]; exact got_2 _ _ _) | (rw [if_neg (by assumption), if_pos (by assumption)]; exact got_2 _ _ _) | (rw [if_neg (by assumption), if_neg (by assumption), if_pos (by assumption)]; exact got_2 _ _ _) | (rw [if_neg (by assumption), if_neg (by assumption), if_neg (by assumption)]; exact (sb_append _ _).symm)), ?_⟩
      exact Ch.au
     ·
      refine W_seq (W_region (L_r (r_eql rfl rfl) (L_r (r_ab rfl) (L_nil ?_))))
      refine W_if rfl (fun h49 => ?_) (fun h49 => ?_)
      ·
       refine W_region (L_r (r_ms rfl) ?_)
       refine L_r (r_fieldb Tryz.underlying45 rfl (show _ = some 1 from rfl) rfl rfl (show _ = 7 from rfl)) (L_r (r_lb rfl rfl) ?_)
       refine L_call (.plain rfl) rfl rfl (r_call Tryz.func42 rfl rfl rfl (by rfl)) (shex_walk x.body _ (by omega)) ?_
       rintro v54 w11 ⟨rfl, c11⟩
       have hz11 := c11.size
       refine L_r (r_adds rfl rfl (by first | omega | (simp only [ByteArray.size_append]; omega))) ?_
       refine L_r (r_adds rfl rfl (by first | omega | (simp only [ByteArray.size_append]; omega))) (L_r (r_as rfl) (L_nil ?_))
       refine ⟨⟨fx2, fx2, fx2, fx2, trivial⟩, (by refine congrArg Value.string ?_; unfold got2; first | (rw [if_pos (by assumption)]; exact got_2 _ _ _) | (rw [if_neg (by assumption), if_pos (by assumption)]; exact got_2 _ _ _) | (rw [if_neg (by assumption), if_neg (by assumption), if_pos (by assumption)]; exact got_2 _ _ _) | (rw [if_neg (by assumption), if_neg (by assumption), if_neg (by assumption)]; exact (sb_append _ _).symm)), ?_⟩
       exact Ch.au
      ·
       refine W_region (L_r (r_ms rfl) ?_)
       refine L_r (r_adds rfl rfl (by first | omega | (simp only [ByteArray.size_append]; omega))) (L_r (r_as rfl) (L_nil ?_))
       refine ⟨⟨fx2, fx2, fx2, fx2, trivial⟩, (by refine congrArg Value.string ?_; unfold got2; first | (rw [if_pos (by assumption)]; exact got_2 _ _ _) | (rw [if_neg (by assumption), if_pos (by assumption)]; exact got_2 _ _ _) | (rw [if_neg (by assumption), if_neg (by assumption), if_pos (by assumption)]; exact got_2 _ _ _) | (rw [if_neg (by assumption), if_neg (by assumption), if_neg (by assumption)]; exact (sb_append _ _).symm)), ?_⟩
       exact Ch.au
   rintro gcb2 w12 ⟨hf5, hCb2⟩
   refine W_as 5 hf5 rfl ?_
   clear hf5
   have hz2 := hCb2.size
   refine W_region (L_r (r_ms rfl) ?_)
   refine L_r (r_adds rfl rfl (by first | omega | (simp only [ByteArray.size_append]; omega))) (L_r (r_as rfl) (L_nil (W_region ?_)))
   refine L_r (r_add rfl rfl (by first | exact wr_i64 (by omega) | rfl)) (L_r (r_mi rfl) (L_nil ?_))
   refine ⟨⟨fx2, fx2, fx2, trivial⟩, _, ?_, i + 1, rfl, (by refine congrArg Value.string ?_; rw [repB_take hil, ← hx]; exact (got_3 _ _ _ _).symm), ?_, rfl⟩
   · omega
   exact ⟨by omega, Ch.au⟩
  ·
   refine W_exit ?_
   repeat (first | refine blk_hit ?_ | refine blk_miss rfl ?_)
   refine W_seq (W_region (L_r (r_ms rfl) (L_r (r_as rfl) (L_nil (W_ret ?_)))))
   refine ret1 (v := .string _) rfl rfl ?_
   refine ⟨congrArg Value.string ?_, Ch.au⟩
   rw [List.take_of_length_le (by omega)]
set_option maxHeartbeats 2000000 in
theorem rrep_walk (v : Value) (side : Int) (z : List Gt) (w0 : World) (hv : Sl w0 v 8 z.length (cellsGt z)) (hl : z.length ≤ 50) (hz : ∀ g ∈ z, gtP g) (hsd : -9223372036854775808 ≤ side ∧ side ≤ 9223372036854775807) : Does Tryz.prog 17 #[.int .i64 side, v] w0 (fun r w' => r = .string (sb (repB side z)) ∧ Nw w0 w') := by
  have hsl := itoa_len hsd
  have hss := sb_size (Lib.itoa side)
  have q1 : ({ data := #[103, 111, 116, 32] } : ByteArray).size = 4 := rfl
  have q2 : ({ data := #[32] } : ByteArray).size = 1 := rfl
  have q3 : ({ data := #[10] } : ByteArray).size = 1 := rfl
  have q4 : ({ data := #[32, 118, 97, 108, 117, 101, 32] } : ByteArray).size = 7 := rfl
  have q5 : ({ data := #[32, 116, 104, 114, 111, 119, 110, 32] } : ByteArray).size = 8 := rfl
  have q6 : ({ data := #[32, 114, 101, 102, 117, 115, 101, 100, 32] } : ByteArray).size = 9 := rfl
  have q7 : ({ data := #[32, 110, 111, 116, 104, 105, 110, 103] } : ByteArray).size = 8 := rfl
  refine fn_of (n := 64) (args := [.int .i64 side, v]) Tryz.func17 rfl rfl rfl (W_seq (W_region (L_r (r_as rfl) (L_nil (W_seq (W_region (L_r (r_as rfl) (L_nil ?_))))))))
  refine W_seq (W_seq (W_region (L_r (r_ai rfl) (L_nil (W_block ?_)))))
  refine W_loopF [0, 1] (fun mz_ f W => ∃ (i : Nat), f 6 = .int .i64 i ∧ f 5 = .string (sb (repB side (z.take i))) ∧ (i ≤ z.length ∧ Nw w0 W) ∧ mz_ = z.length - i) ?_ ?_
  ·
   refine ⟨_, 0, rfl, rfl, ?_, rfl⟩
   exact ⟨by omega, Ch.au⟩
  rintro m0 g0 w1 ⟨i, hf6, hf5, hR0, rfl⟩
  refine W_as 6 hf6 rfl ?_
  refine W_as 5 hf5 rfl ?_
  clear hf6 hf5
  obtain ⟨hi, hnw⟩ := hR0
  have hzz := hnw.size
  refine W_seq (W_seq (W_region (L_r (r_mi rfl) (L_r (r_mv) ?_))))
  refine L_r (r_lenSl Tryz.underlying41 (by conv => lhs; whnf) Sl.au) (L_r (r_lss rfl rfl) (L_nil ?_))
  refine W_if rfl (fun h11 => ?_) (fun h11 => ?_)
  ·
   have hil : i < z.length := by omega
   have hrow := cellsGt_row z i hil
   have hxm := List.getElem_mem hil
   obtain ⟨x, hx⟩ : ∃ x, x = z[i] := ⟨_, rfl⟩
   rw [← hx] at hrow hxm
   obtain ⟨hx1, hx2, hx3, hx4, hx5, hx6, hx7⟩ := hz x hxm
   have hRl := repB_len side (z.take i) hsd (fun g hg => hz g (List.mem_of_mem_take hg))
   rw [List.length_take] at hRl
   have hRs := sb_size (repB side (z.take i))
   have hd1 := digits_len x.life hx1
   have hd2 := digits_len x.seq hx2
   have hs1 := sb_size (Lib.decDigits x.life)
   have hs2 := sb_size (Lib.decDigits x.seq)
   have hvl := valB_len x.v hx5 hx6
   have hvs := sb_size (valB x.v)
   have hhl := hexB_len x.body
   have hhs := sb_size (hexB x.body)
   have hp1 := sb_size (repB side (z.take i) ++ got1 side x)
   have hp1l : (repB side (z.take i) ++ got1 side x).length ≤ 45000 := by rw [List.length_append]; have := got1_len hsd x hx1 hx2; omega
   have hp2 := sb_size (repB side (z.take i) ++ got1 side x ++ got2 x)
   have hp2l : (repB side (z.take i) ++ got1 side x ++ got2 x).length ≤ 50000 := by rw [List.length_append]; have := got2_len x hx3 hx4 hx5 hx6; omega
   refine W_skip (W_seq (W_block (W_seq (W_region (L_r (r_mv) (L_r (r_mi rfl) ?_))))))
   refine L_r (r_ix Tryz.underlying41 (show _ = some 8 from rfl) (by conv => lhs; whnf) rfl Sl.au) ?_
   refine L_r (r_loadSlrow (us := [.int .u64 (x.life : Int), .int .u64 (x.seq : Int), .int .i64 x.way, .int .i64 x.v.sort, .int .i64 x.v.n, .string x.v.s, .int .i64 x.v.ref, .string x.body]) Tryz.underlying45 rfl rfl rfl rfl Sl.au (by exact hrow)) ?_
   refine L_new (.plain rfl) rfl rfl (r_alloca rfl) (fun w2 b7 hb7 eb2 hs2 c2 => ?_)
   refine L_storerow (.plain rfl) rfl rfl Bk.au (by first | rfl | (simp; done) | assumption) (by first | rfl | assumption) (by first | rfl | (simp [Value.oneCell']; done) | assumption) (fun w3 hb3 hs3 c3 => (L_nil ?_))
   refine W_cutF [0, 1, 6, 7] (fun f W => f 5 = .string (sb (repB side (z.take i) ++ got1 side x)) ∧ (Bk W b7 #[.int .u64 (x.life : Int), .int .u64 (x.seq : Int), .int .i64 x.way, .int .i64 x.v.sort, .int .i64 x.v.n, .string x.v.s, .int .i64 x.v.ref, .string x.body] 45 ∧ Nw w0 W)) ?_ ?_
   ·
    refine W_draw (fun W => Bk W b7 #[.int .u64 (x.life : Int), .int .u64 (x.seq : Int), .int .i64 x.way, .int .i64 x.v.sort, .int .i64 x.v.n, .string x.v.s, .int .i64 x.v.ref, .string x.body] 45) 16 (m := 16) (by kernel_rfl) rfl (fun w4 c4 hs4 => ?_)
    refine held Bk.au (fun hS => ?_)
    refine D_t 0 rfl (fun W hW => r_ms rfl) ?_
    refine D_t 1 rfl (fun W hW => r_mi rfl) ?_
    refine D_t 5 rfl (fun W hW => r_fieldb Tryz.underlying45 rfl (show _ = some 1 from rfl) rfl rfl (show _ = 0 from rfl)) ?_
    refine D_t 6 rfl (fun W hW => r_loadb rfl rfl (by exact hW) (by first | assumption | (conv => lhs; simp only [List.getElem?_toArray, List.getElem?_cons_succ, List.getElem?_cons_zero]))) ?_
    refine D_t 10 rfl (fun W hW => r_fieldb Tryz.underlying45 rfl (show _ = some 1 from rfl) rfl rfl (show _ = 1 from rfl)) ?_
    refine D_t 11 rfl (fun W hW => r_loadb rfl rfl (by exact hW) (by first | assumption | (conv => lhs; simp only [List.getElem?_toArray, List.getElem?_cons_succ, List.getElem?_cons_zero]))) ?_
    refine D_ev 2 (by kernel_rfl) rfl ?_
    refine L_call (.plain rfl) rfl rfl (r_call Tryz.func43 rfl rfl rfl (by rfl)) (rdigits_walk side _ hsd) ?_
    rintro v20 w5 ⟨rfl, c5⟩
    have hz5 := c5.size
    refine L_nil ?_
    refine heldK Bk.au (fun hS => ?_)
    refine D_t 3 rfl (fun W hW => r_adds rfl rfl (by first | omega | (simp only [ByteArray.size_append]; omega))) ?_
    refine D_t 4 rfl (fun W hW => r_adds rfl rfl (by first | omega | (simp only [ByteArray.size_append]; omega))) ?_
    refine D_ev 7 (by kernel_rfl) rfl ?_
    refine L_call (.plain rfl) rfl rfl (r_call Tryz.func44 rfl rfl rfl (by rfl)) (rwhole_walk x.life _ hx1) ?_
    rintro v25 w6 ⟨rfl, c6⟩
    have hz6 := c6.size
    refine L_nil ?_
    refine heldK Bk.au (fun hS => ?_)
    refine D_t 8 rfl (fun W hW => r_adds rfl rfl (by first | omega | (simp only [ByteArray.size_append]; omega))) ?_
    refine D_t 9 rfl (fun W hW => r_adds rfl rfl (by first | omega | (simp only [ByteArray.size_append]; omega))) ?_
    refine D_ev 12 (by kernel_rfl) rfl ?_
    refine L_call (.plain rfl) rfl rfl (r_call Tryz.func44 rfl rfl rfl (by rfl)) (rwhole_walk x.seq _ hx2) ?_
    rintro v30 w7 ⟨rfl, c7⟩
    have hz7 := c7.size
    refine L_nil ?_
    refine heldK Bk.au (fun hS => ?_)
    refine D_t 13 rfl (fun W hW => r_adds rfl rfl (by first | omega | (simp only [ByteArray.size_append]; omega))) ?_
    refine D_t 14 rfl (fun W hW => r_adds rfl rfl (by first | omega | (simp only [ByteArray.size_append]; omega))) ?_
    refine D_t 15 rfl (fun W hW => r_as rfl) ?_
    refine D_done (by kernel_rfl) ?_
    refine ⟨⟨fx2, fx2, fx2, fx2, trivial⟩, (by exact congrArg Value.string (got_1 _ _ _)), ?_⟩
    exact ⟨Bk.au, Ch.au⟩
   rintro gcr6 w8 ⟨hf5, hCr6⟩
   refine W_as 5 hf5 rfl ?_
   clear hf5
   obtain ⟨hb7, hnw1⟩ := hCr6
   have hz1 := hnw1.size
   refine W_seq (W_seq (W_region ?_))
   refine L_r (r_fieldb Tryz.underlying45 rfl (show _ = some 1 from rfl) rfl rfl (show _ = 2 from rfl)) (L_r (r_lb rfl rfl) (L_nil ?_))
   refine W_endF [0, 1, 6] (fun f W => f 5 = .string (sb (repB side (z.take i) ++ got1 side x ++ got2 x)) ∧ (Nw w0 W)) ?_ ?_
   ·
    refine W_block (W_seq (W_region (L_r (r_eql rfl rfl) (L_r (r_ab rfl) (L_nil ?_)))))
    refine W_if rfl (fun h37 => ?_) (fun h37 => ?_)
    ·
     refine W_region (L_r (r_ms rfl) ?_)
     refine L_r (r_fieldb Tryz.underlying45 rfl (show _ = some 4 from rfl) rfl rfl (show _ = 3 from rfl)) ?_
     refine L_r (r_loadsub (us := [.int _ _, .int _ _, .string _, .int _ _]) Tryz.underlying43 rfl (show _ = some 4 from rfl) rfl Bk.au rfl rfl) ?_
     refine L_call (.plain rfl) rfl rfl (r_call Tryz.func45 rfl rfl rfl (by rfl)) (rvalue_walk x.v _ (by omega) hx5 hx6) ?_
     rintro v42 w9 ⟨rfl, c9⟩
     have hz9 := c9.size
     refine L_r (r_adds rfl rfl (by first | omega | (simp only [ByteArray.size_append]; omega))) ?_
     refine L_r (r_adds rfl rfl (by first | omega | (simp only [ByteArray.size_append]; omega))) (L_r (r_as rfl) (L_nil ?_))
     refine ⟨⟨fx2, fx2, fx2, trivial⟩, (by refine congrArg Value.string ?_; unfold got2; first | (rw [if_pos (by assumption)]; exact got_2 _ _ _) | (rw [if_neg (by assumption), if_pos (by assumption)]; exact got_2 _ _ _) | (rw [if_neg (by assumption), if_neg (by assumption), if_pos (by assumption)]; exact got_2 _ _ _) | (rw [if_neg (by assumption), if_neg (by assumption), if_neg (by assumption)]; exact (sb_append _ _).symm)), ?_⟩
     exact Ch.au
    ·
     refine W_seq (W_region (L_r (r_eql rfl rfl) (L_r (r_ab rfl) (L_nil ?_))))
     refine W_if rfl (fun h45 => ?_) (fun h45 => ?_)
     ·
      refine W_region (L_r (r_ms rfl) ?_)
      refine L_r (r_fieldb Tryz.underlying45 rfl (show _ = some 1 from rfl) rfl rfl (show _ = 7 from rfl)) (L_r (r_lb rfl rfl) ?_)
      refine L_call (.plain rfl) rfl rfl (r_call Tryz.func46 rfl rfl rfl (by rfl)) (rhex_walk x.body _ (by omega)) ?_
      rintro v50 w10 ⟨rfl, c10⟩
      have hz10 := c10.size
      refine L_r (r_adds rfl rfl (by first | omega | (simp only [ByteArray.size_append]; omega))) ?_
      refine L_r (r_adds rfl rfl (by first | omega | (simp only [ByteArray.size_append]; omega))) (L_r (r_as rfl) (L_nil ?_))
      refine ⟨⟨fx2, fx2, fx2, trivial⟩, (by refine congrArg Value.string ?_; unfold got2; first | (rw [if_pos (by assumption)]; exact got_2 _ _ _) | (rw [if_neg (by assumption), if_pos (by assumption)]; exact got_2 _ _ _) | (rw [if_neg (by assumption), if_neg (by assumption), if_pos (by assumption)]; exact got_2 _ _ _) | (rw [if_neg (by assumption), if_neg (by assumption), if_neg (by assumption)]; exact (sb_append _ _).symm)), ?_⟩
      exact Ch.au
     ·
      refine W_seq (W_region (L_r (r_eql rfl rfl) (L_r (r_ab rfl) (L_nil ?_))))
      refine W_if rfl (fun h53 => ?_) (fun h53 => ?_)
      ·
       refine W_region (L_r (r_ms rfl) ?_)
       refine L_r (r_fieldb Tryz.underlying45 rfl (show _ = some 1 from rfl) rfl rfl (show _ = 7 from rfl)) (L_r (r_lb rfl rfl) ?_)
       refine L_call (.plain rfl) rfl rfl (r_call Tryz.func46 rfl rfl rfl (by rfl)) (rhex_walk x.body _ (by omega)) ?_
       rintro v58 w11 ⟨rfl, c11⟩
       have hz11 := c11.size
       refine L_r (r_adds rfl rfl (by first | omega | (simp only [ByteArray.size_append]; omega))) ?_
       refine L_r (r_adds rfl rfl (by first | omega | (simp only [ByteArray.size_append]; omega))) (L_r (r_as rfl) (L_nil ?_))
       refine ⟨⟨fx2, fx2, fx2, trivial⟩, (by refine congrArg Value.string ?_; unfold got2; first | (rw [if_pos (by assumption)]; exact got_2 _ _ _) | (rw [if_neg (by assumption), if_pos (by assumption)]; exact got_2 _ _ _) | (rw [if_neg (by assumption), if_neg (by assumption), if_pos (by assumption)]; exact got_2 _ _ _) | (rw [if_neg (by assumption), if_neg (by assumption), if_neg (by assumption)]; exact (sb_append _ _).symm)), ?_⟩
       exact Ch.au
      ·
       refine W_region (L_r (r_ms rfl) ?_)
       refine L_r (r_adds rfl rfl (by first | omega | (simp only [ByteArray.size_append]; omega))) (L_r (r_as rfl) (L_nil ?_))
       refine ⟨⟨fx2, fx2, fx2, trivial⟩, (by refine congrArg Value.string ?_; unfold got2; first | (rw [if_pos (by assumption)]; exact got_2 _ _ _) | (rw [if_neg (by assumption), if_pos (by assumption)]; exact got_2 _ _ _) | (rw [if_neg (by assumption), if_neg (by assumption), if_pos (by assumption)]; exact got_2 _ _ _) | (rw [if_neg (by assumption), if_neg (by assumption), if_neg (by assumption)]; exact (sb_append _ _).symm)), ?_⟩
       exact Ch.au
   rintro gcb2 w12 ⟨hf5, hCb2⟩
   refine W_as 5 hf5 rfl ?_
   clear hf5
   have hz2 := hCb2.size
   refine W_region (L_r (r_ms rfl) ?_)
   refine L_r (r_adds rfl rfl (by first | omega | (simp only [ByteArray.size_append]; omega))) (L_r (r_as rfl) (L_nil (W_region (L_r (r_mi rfl) ?_))))
   refine L_r (r_add rfl rfl (by first | exact wr_i64 (by omega) | rfl)) (L_r (r_ai rfl) (L_nil ?_))
   refine ⟨⟨fx2, fx2, trivial⟩, _, ?_, i + 1, rfl, (by refine congrArg Value.string ?_; rw [repB_take hil, ← hx]; exact (got_3 _ _ _ _).symm), ?_, rfl⟩
   · omega
   exact ⟨by omega, Ch.au⟩
  ·
   refine W_exit ?_
   repeat (first | refine blk_hit ?_ | refine blk_miss rfl ?_)
   refine W_seq (W_region (L_r (r_ms rfl) (L_r (r_as rfl) (L_nil (W_ret ?_)))))
   refine ret1 (v := .string _) rfl rfl ?_
   refine ⟨congrArg Value.string ?_, Ch.au⟩
   rw [List.take_of_length_le (by omega)]
end Go.Proofs.YtgmeojpekdekeaaGreatDoor

namespace Go.Proofs.YtgmeojpekdekeaaGreatDoor
open Go Go.RowKit
set_option linter.unusedVariables false
set_option linter.unusedSimpArgs false
set_option maxRecDepth 100000
theorem eqVal (a b d a' b' d' : Int) (c c' : ByteArray) (W : World) :
    (Op.equal 43 (.agg #[.int .i64 a, .int .i64 b, .string c, .int .i64 d]) (.agg #[.int .i64 a', .int .i64 b', .string c', .int .i64 d'])).run Tryz.prog W = .ok (decide (a = a' ∧ b = b' ∧ c = c' ∧ d = d')) W := by
  rw [eq_struct Tryz.underlying43 (by kernel_rfl)]
  refine (eqF_cons (by decide) (by kernel_rfl) rfl rfl (eqI_int Tryz.underlying3) (eqF_cons (by decide) (by kernel_rfl) rfl rfl (eqI_int Tryz.underlying2) (eqF_cons (by decide) (by kernel_rfl) rfl rfl (eqI_string Tryz.underlying9) (eqF_cons (by decide) (by kernel_rfl) rfl rfl (eqI_int Tryz.underlying3) eqF_nil)))).trans ?_
  congr 1
  by_cases h : a = a' ∧ b = b' ∧ c = c' ∧ d = d'
  · rw [decide_eq_true h, decide_eq_true (by simpa using h)]
  · rw [decide_eq_false h, decide_eq_false (by simpa using h)]
set_option maxHeartbeats 1000000 in
theorem eq_Va (va vb : Value) (x y : List Va) (w0 : World) (hva : Sl w0 va 4 x.length (cellsVa x)) (hvb : Sl w0 vb 4 y.length (cellsVa y)) (hl : x.length ≤ 1000000000000000) (hl2 : y.length ≤ 1000000000000000) : Does Tryz.prog 49 #[va, vb] w0 (fun r w' => ∃ b : Bool, r = .bool b ∧ (b = true ↔ x = y) ∧ Nw w0 w') := by
  refine fn_of (n := 26) (args := [va, vb]) Tryz.func49 rfl rfl rfl (W_seq (W_region (L_r (r_ab rfl) (L_nil (W_seq (W_seq (W_region (L_r (r_mv) ?_))))))))
  refine L_r (r_lenSl Tryz.underlying27 (by conv => lhs; whnf) Sl.au) (L_r (r_mv) ?_)
  refine L_r (r_lenSl Tryz.underlying27 (by conv => lhs; whnf) Sl.au) (L_r (r_neq rfl rfl) (L_nil ?_))
  refine W_if rfl (fun h10 => ?_) (fun h10 => ?_)
  ·
   refine W_seq (W_region (L_r (r_ab rfl) (L_nil (W_ret ?_))))
   refine ret1 (v := .bool _) rfl rfl ?_
   first
   | exact ⟨true, rfl, ⟨fun _ => List.ext_getElem (by omega) fun j h1 h2 => hn j h1 h2 (by omega), fun _ => rfl⟩, Ch.au⟩
   | exact ⟨false, rfl, ⟨fun h => absurd h (by decide), fun e => by subst e; omega⟩, Ch.au⟩
   | (have hpq : p ≠ q := by { intro e; subst e; first | exact h24 (by simp) | simp at h24 }
      exact ⟨false, rfl, ⟨fun h => absurd h (by decide), fun e => absurd (by subst e; rw [hp, hq]) hpq⟩, Ch.au⟩)
  ·
   refine W_skip (W_seq (W_seq (W_region (L_r (r_mv) ?_))))
   refine L_r (r_lenSl Tryz.underlying27 (by conv => lhs; whnf) Sl.au) (L_r (r_mi rfl) (L_nil (W_block ?_)))
   refine W_loopF [0, 1, 12] (fun mz_ f W => ∃ (i : Nat), f 13 = .int .i64 i ∧ (i ≤ x.length ∧ (∀ j (h1 : j < x.length) (h2 : j < y.length), j < i → x[j] = y[j]) ∧ Nw w0 W) ∧ mz_ = x.length - i) ?_ ?_
   ·
    refine ⟨_, 0, rfl, ?_, rfl⟩
    exact ⟨by omega, fun j h1 h2 hji => absurd hji (by omega), Ch.au⟩
   rintro m0 g0 w1 ⟨i, hf13, hR0, rfl⟩
   refine W_as 13 hf13 rfl ?_
   clear hf13
   obtain ⟨hi, hn, hnw⟩ := hR0
   have hz := hnw.size
   refine W_seq (W_region (L_r (r_lss rfl rfl) (L_nil (W_seq ?_))))
   refine W_if rfl (fun h14 => ?_) (fun h14 => ?_)
   ·
    have hil : i < x.length := by omega
    have hil2 : i < y.length := by omega
    have hrp := cellsVa_row x i hil
    have hrq := cellsVa_row y i hil2
    obtain ⟨p, hp⟩ : ∃ p, p = x[i] := ⟨_, rfl⟩
    obtain ⟨q, hq⟩ : ∃ q, q = y[i] := ⟨_, rfl⟩
    rw [← hp] at hrp
    rw [← hq] at hrq
    refine W_skip (W_seq (W_block (W_seq (W_region (L_r (r_mi rfl) (L_r (r_ai rfl) (L_nil (W_seq ?_))))))))
    refine W_draw (fun W => Sl W va 4 x.length (cellsVa x) ∧ Sl W vb 4 y.length (cellsVa y)) 9 (m := 9) (by kernel_rfl) rfl (fun w2 c2 hs2 => ?_)
    refine held (by exact ⟨Sl.au, Sl.au⟩) (fun hS => ?_)
    refine D_t 0 rfl (fun W hW => r_mv) ?_
    refine D_t 1 rfl (fun W hW => r_mi rfl) ?_
    refine D_t 2 rfl (fun W hW => r_ix Tryz.underlying27 (show _ = some 4 from rfl) (by conv => lhs; whnf) rfl (by first | exact hW.1 | exact hW.2)) ?_
    refine D_t 3 rfl (fun W hW => r_loadSlrow (us := [.int .i64 p.sort, .int .i64 p.n, .string p.s, .int .i64 p.ref]) Tryz.underlying43 rfl rfl rfl rfl (by first | exact hW.1 | exact hW.2) (by exact hrp)) ?_
    refine D_t 4 rfl (fun W hW => r_mv) ?_
    refine D_t 5 rfl (fun W hW => r_mi rfl) ?_
    refine D_t 6 rfl (fun W hW => r_ix Tryz.underlying27 (show _ = some 4 from rfl) (by conv => lhs; whnf) rfl (by first | exact hW.1 | exact hW.2)) ?_
    refine D_t 7 rfl (fun W hW => r_loadSlrow (us := [.int .i64 q.sort, .int .i64 q.n, .string q.s, .int .i64 q.ref]) Tryz.underlying43 rfl rfl rfl rfl (by first | exact hW.1 | exact hW.2) (by exact hrq)) ?_
    refine D_t 8 rfl (fun W hW => r_neqR (xs := #[.int _ _, .int _ _, .string _, .int _ _]) (ys := #[.int _ _, .int _ _, .string _, .int _ _]) rfl rfl (by kernel_rfl) (eqVal _ _ _ _ _ _ _ _ _)) ?_
    refine D_done (by kernel_rfl) ?_
    refine W_if rfl (fun h24 => ?_) (fun h24 => ?_)
    ·
     refine W_seq (W_region (L_r (r_ab rfl) (L_nil (W_ret ?_))))
     refine ret1 (v := .bool _) rfl rfl ?_
     first
     | exact ⟨true, rfl, ⟨fun _ => List.ext_getElem (by omega) fun j h1 h2 => hn j h1 h2 (by omega), fun _ => rfl⟩, Ch.au⟩
     | exact ⟨false, rfl, ⟨fun h => absurd h (by decide), fun e => by subst e; omega⟩, Ch.au⟩
     | (have hpq : p ≠ q := by { intro e; subst e; first | exact h24 (by simp) | simp at h24 }
        exact ⟨false, rfl, ⟨fun h => absurd h (by decide), fun e => absurd (by subst e; rw [hp, hq]) hpq⟩, Ch.au⟩)
    ·
     refine W_skip (W_region ?_)
     refine L_r (r_add rfl rfl (by first | exact wr_i64 (by omega) | rfl)) (L_r (r_mi rfl) (L_nil ?_))
     refine ⟨⟨fx2, fx2, fx2, trivial⟩, _, ?_, i + 1, rfl, ?_, rfl⟩
     · omega
     have hpq : p = q := by { have h : p.sort = q.sort ∧ p.n = q.n ∧ p.s = q.s ∧ p.ref = q.ref := by { first | exact h24 | exact Classical.not_not.1 h24 | simpa using h24 }; cases p; cases q; simp_all }
     refine ⟨by omega, fun j h1 h2 hji => ?_, Ch.au⟩
     rcases Nat.lt_or_ge j i with h | h
     · exact hn j h1 h2 h
     ·
      have e : j = i := by omega
      subst e
      rw [← hp, ← hq]; exact hpq
   ·
    refine W_exit ?_
    repeat (first | refine blk_hit ?_ | refine blk_miss rfl ?_)
    refine W_seq (W_region (L_r (r_ab rfl) (L_nil (W_ret ?_))))
    refine ret1 (v := .bool _) rfl rfl ?_
    first
    | exact ⟨true, rfl, ⟨fun _ => List.ext_getElem (by omega) fun j h1 h2 => hn j h1 h2 (by omega), fun _ => rfl⟩, Ch.au⟩
    | exact ⟨false, rfl, ⟨fun h => absurd h (by decide), fun e => by subst e; omega⟩, Ch.au⟩
    | (have hpq : p ≠ q := by { intro e; subst e; first | exact h24 (by simp) | simp at h24 }
       exact ⟨false, rfl, ⟨fun h => absurd h (by decide), fun e => absurd (by subst e; rw [hp, hq]) hpq⟩, Ch.au⟩)
theorem ixf_Va (z : List Va) (v : Value) (fid : Nat) (cap : List Value) (b : Va → Bool) (w0 : World) (hv : Sl w0 v 4 z.length (cellsVa z)) (hl : z.length ≤ 1000000000000000) (hK : Knows Tryz.prog fid) (hcl : ∀ x ∈ z, ∀ W, Nw w0 W → Does Tryz.prog fid (x.v :: cap).toArray W (fun r w' => r = .bool (b x) ∧ Nw W w')) : Does Tryz.prog 59 #[v, .func (.func fid) #[] cap.toArray] w0 (fun r w' => ∃ k : Int, r = .int .i64 k ∧ (0 ≤ k ↔ z.any b = true) ∧ Nw w0 w') := by
  refine fn_of (n := 19) (args := [v, .func (.func fid) #[] cap.toArray]) Tryz.func59 rfl rfl rfl (W_seq (W_region (L_r (r_ai rfl) (L_nil (W_seq (W_seq (W_region (L_r (r_mv) ?_))))))))
  refine L_r (r_lenSl Tryz.underlying27 (by conv => lhs; whnf) Sl.au) (L_r (r_mi rfl) (L_nil (W_block ?_)))
  refine W_loopF [0, 1, 7] (fun mz_ f W => ∃ (i : Nat), f 8 = .int .i64 i ∧ (i ≤ z.length ∧ (∀ j (hj : j < z.length), j < i → b z[j] = false) ∧ Nw w0 W) ∧ mz_ = z.length - i) ?_ ?_
  ·
   refine ⟨_, 0, rfl, ?_, rfl⟩
   exact ⟨by omega, fun j hj hji => absurd hji (by omega), Ch.au⟩
  rintro m0 g0 w1 ⟨i, hf8, hR0, rfl⟩
  refine W_as 8 hf8 rfl ?_
  clear hf8
  obtain ⟨hi, hn, hnw⟩ := hR0
  have hz := hnw.size
  refine W_seq (W_region (L_r (r_lss rfl rfl) (L_nil (W_seq ?_))))
  refine W_if rfl (fun h9 => ?_) (fun h9 => ?_)
  ·
   have hil : i < z.length := by omega
   have hrow := cellsVa_row z i hil
   have hxm := List.getElem_mem hil
   obtain ⟨x, hx⟩ : ∃ x, x = z[i] := ⟨_, rfl⟩
   rw [← hx] at hrow hxm
   refine W_skip (W_seq (W_block (W_seq (W_region (L_r (r_mi rfl) (L_r (r_ai rfl) (L_nil (W_seq ?_))))))))
   refine W_region (L_r (r_mv) (L_r (r_mv) (L_r (r_mi rfl) ?_)))
   refine L_r (r_ix Tryz.underlying27 (show _ = some 4 from rfl) (by conv => lhs; whnf) rfl Sl.au) ?_
   refine L_r (r_loadSlrow (us := [.int .i64 x.sort, .int .i64 x.n, .string x.s, .int .i64 x.ref]) Tryz.underlying43 rfl rfl rfl rfl Sl.au (by exact hrow)) ?_
   refine L_call (.plain rfl) rfl rfl (r_callv hK rfl (by rfl)) (hcl x hxm _ Ch.au) ?_
   rintro v16 w2 ⟨rfl, c2⟩
   have hz2 := c2.size
   refine L_nil ?_
   refine W_bool rfl (fun h16 => ?_) (fun h16 => ?_)
   ·
    refine W_seq (W_region (L_r (r_mi rfl) (L_r (r_ai rfl) (L_nil (W_ret ?_)))))
    refine ret1 (v := .int _ _) rfl rfl ?_
    first
    | exact ⟨_, rfl, ⟨fun _ => List.any_eq_true.2 ⟨x, hxm, h16⟩, fun _ => by omega⟩, Ch.au⟩
    | (refine ⟨_, rfl, ⟨fun h => absurd h (by decide), fun h => ?_⟩, Ch.au⟩
       obtain ⟨x, hx, hb⟩ := List.any_eq_true.1 h
       obtain ⟨j, hj, rfl⟩ := List.mem_iff_getElem.1 hx
       rw [hn j hj (by omega)] at hb
       cases hb)
   ·
    refine W_skip (W_region ?_)
    refine L_r (r_add rfl rfl (by first | exact wr_i64 (by omega) | rfl)) (L_r (r_mi rfl) (L_nil ?_))
    refine ⟨⟨fx2, fx2, fx2, trivial⟩, _, ?_, i + 1, rfl, ?_, rfl⟩
    · omega
    refine ⟨by omega, fun j hj hji => ?_, Ch.au⟩
    rcases Nat.lt_or_ge j i with h | h
    · exact hn j hj h
    ·
     have e : j = i := by omega
     subst e
     rw [← hx]; exact h16
  ·
   refine W_exit ?_
   repeat (first | refine blk_hit ?_ | refine blk_miss rfl ?_)
   refine W_seq (W_region (L_r (r_ai rfl) (L_nil (W_ret ?_))))
   refine ret1 (v := .int _ _) rfl rfl ?_
   first
   | exact ⟨_, rfl, ⟨fun _ => List.any_eq_true.2 ⟨x, hxm, h16⟩, fun _ => by omega⟩, Ch.au⟩
   | (refine ⟨_, rfl, ⟨fun h => absurd h (by decide), fun h => ?_⟩, Ch.au⟩
      obtain ⟨x, hx, hb⟩ := List.any_eq_true.1 h
      obtain ⟨j, hj, rfl⟩ := List.mem_iff_getElem.1 hx
      rw [hn j hj (by omega)] at hb
      cases hb)
theorem cf_Va (z : List Va) (v : Value) (fid : Nat) (cap : List Value) (b : Va → Bool) (w0 : World) (hv : Sl w0 v 4 z.length (cellsVa z)) (hl : z.length ≤ 1000000000000000) (hK : Knows Tryz.prog fid) (hcl : ∀ x ∈ z, ∀ W, Nw w0 W → Does Tryz.prog fid (x.v :: cap).toArray W (fun r w' => r = .bool (b x) ∧ Nw W w')) : Does Tryz.prog 21 #[v, .func (.func fid) #[] cap.toArray] w0 (fun r w' => r = .bool (z.any b) ∧ Nw w0 w') := by
  refine fn_of (n := 9) (args := [v, .func (.func fid) #[] cap.toArray]) Tryz.func21 rfl rfl rfl (W_seq (W_region (L_r (r_ab rfl) (L_nil (W_seq (W_region (L_r (r_mv) (L_r (r_mv) ?_))))))))
  refine L_call (.plain rfl) rfl rfl (r_call Tryz.func59 rfl rfl rfl (by rfl)) (ixf_Va z v fid cap b _ Sl.au hl hK (fun x hx W c => hcl x hx W Ch.au)) ?_
  rintro v7 w1 ⟨k, rfl, hk, c1⟩
  have hz1 := c1.size
  refine L_r (r_geq rfl rfl) (L_r (r_ab rfl) (L_nil (W_ret ?_)))
  refine ret1 (v := .bool _) rfl rfl ?_
  exact ⟨(dec_b hk.symm).symm, Ch.au⟩
theorem ssmall_walk (n : Int) (w0 : World) : Does Tryz.prog 27 #[.int .i64 n] w0 (fun r w' => r = .bool (decide (0 ≤ n ∧ n ≤ 1000000)) ∧ Nw w0 w') := by
  refine fn_of (n := 9) (args := [.int .i64 n]) Tryz.func27 rfl rfl rfl (W_seq (W_region (L_r (r_ab rfl) (L_nil (W_seq (W_region (L_r (r_mi rfl) (L_r (r_geq rfl rfl) ?_))))))))
  refine L_r (r_mb rfl) ?_
  refine L_case (d := 5) rfl (fun h5 => ?_) (fun h5 => ?_)
  ·
   refine L_g (r_mi rfl) ?_
   refine L_g (r_leq rfl rfl) (L_r (r_pt rfl rfl) (L_r (r_ab rfl) (L_nil (W_ret ?_))))
   refine ret1 (v := .bool _) rfl rfl ?_
   refine ⟨?_, Ch.au⟩
   first
   | exact bool_f (fun h => by omega)
   | exact dec_b (by rw [decide_eq_true_iff]; omega)
   | exact (dec_b (by simp; omega))
  ·
   refine L_ps (L_ps (L_r (r_pf rfl rfl) (L_r (r_ab rfl) (L_nil (W_ret ?_)))))
   refine ret1 (v := .bool _) rfl rfl ?_
   refine ⟨?_, Ch.au⟩
   first
   | exact bool_f (fun h => by omega)
   | exact dec_b (by rw [decide_eq_true_iff]; omega)
   | exact (dec_b (by simp; omega))
end Go.Proofs.YtgmeojpekdekeaaGreatDoor
