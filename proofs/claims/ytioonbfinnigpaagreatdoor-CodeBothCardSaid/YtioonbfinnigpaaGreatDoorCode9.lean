/- Instructions as a text, and out of one; walked. -/
import Derived.Test.YtioonbfinnigpaaGreatDoorCode8
namespace Go.Proofs.YtioonbfinnigpaaGreatDoor
open Go Go.RowKit
set_option linter.unusedVariables false
set_option linter.unusedSimpArgs false
set_option maxRecDepth 100000
def showB : List Ins → ByteArray → ByteArray
  | [], s => s
  | x :: z, s => showB z (s ++ linF x)
theorem showB_app (z : List Ins) : ∀ s t : ByteArray, showB z (s ++ t) = s ++ showB z t := by
  induction z with
  | nil => intro s t; rfl
  | cons x z ih => intro s t; show showB z (s ++ t ++ linF x) = s ++ showB z (t ++ linF x); rw [← ih, ByteArray.append_assoc]
theorem showB_take {z : List Ins} {i : Nat} (h : i < z.length) (s : ByteArray) : showB (z.take (i + 1)) s = showB (z.take i) s ++ linF z[i] := by
  have key : ∀ (a : List Ins) (x : Ins) (s : ByteArray), showB (a ++ [x]) s = showB a s ++ linF x := by
    intro a
    induction a with
    | nil => intro x s; rfl
    | cons y a ih => intro x s; exact ih x _
  rw [List.take_succ_eq_append_getElem h, key]
abbrev insR (x : Ins) : Prop := (-9223372036854775808 ≤ x.n ∧ x.n ≤ 9223372036854775807) ∧ x.op.size ≤ 4000 ∧ x.s.size ≤ 5000
theorem showB_size : ∀ (z : List Ins) (s : ByteArray), (∀ x ∈ z, insR x) → (showB z s).size ≤ s.size + 9023 * z.length
  | [], s, _ => by simp [showB]
  | x :: z, s, h => by
    have ih := showB_size z (s ++ linF x) fun y hy => h y (List.mem_cons_of_mem _ hy)
    have hx := h x List.mem_cons_self
    have := linF_size hx.1
    have := hx.2
    rw [ByteArray.size_append] at ih
    show (showB z (s ++ linF x)).size ≤ _
    rw [List.length_cons]; omega
theorem show_walk (base : Nat) (v : Value) (z : List Ins) (w0 : World) (hG : Gv base w0) (hF : Fv base w0) (hb : base ≤ w0.heap.size) (hv : Sl w0 v 3 z.length (cellsI z)) (hl : z.length ≤ 10000) (hs : ∀ x ∈ z, insR x) : Does Tryz.prog 18 #[v] w0 (fun r w' => r = .tuple #[.string (if allI z = 0 then showB z { data := #[] } else { data := #[] }), .int .i64 (allI z)] ∧ Nw w0 w') := by
  refine fn_of (n := 25) (args := [v]) Tryz.func18 rfl rfl rfl ?_
  refine W_seq ?_
  refine W_region ?_
  refine L_r (r_as rfl) ?_
  refine L_r (r_ai rfl) ?_
  refine L_nil ?_
  refine W_seq ?_
  refine W_seq ?_
  refine W_region ?_
  refine L_r (r_mv) ?_
  refine L_call (.plain rfl) rfl rfl (r_call Tryz.func31 rfl rfl rfl (by rfl)) (all_ins_walk base v z _ (hG.nw Ch.au hb) (by omega) Sl.au (by omega) (fun x hx => by have := (hs x hx).2; omega)) ?_
  rintro v9 w1 ⟨rfl, c1⟩
  have hz1 := c1.size
  refine L_r (r_ai rfl) ?_
  refine L_nil ?_
  refine W_seq ?_
  refine W_region ?_
  refine L_r (r_mi rfl) ?_
  refine L_r (r_neq rfl rfl) ?_
  refine L_nil ?_
  refine W_if rfl (fun h11 => ?_) (fun h11 => ?_)
  · refine W_seq ?_
    refine W_region ?_
    refine L_r (r_mi rfl) ?_
    refine L_r (r_as rfl) ?_
    refine L_r (r_ai rfl) ?_
    refine L_nil ?_
    refine W_ret ?_
    refine ret2 (u := .string _) (v := .int _ _) rfl rfl rfl ?_
    refine ⟨?_, Ch.au⟩
    first
    | (rw [if_neg h11]; done)
    | (have e0 : allI z = 0 := Classical.not_not.1 h11
       rw [if_pos e0, e0, hsb, List.take_of_length_le (by omega)])
  · refine W_skip ?_
    refine W_seq ?_
    refine W_region ?_
    refine L_r (r_as rfl) ?_
    refine L_nil ?_
    refine W_seq ?_
    refine W_seq ?_
    refine W_region ?_
    refine L_r (r_mv) ?_
    refine L_r (r_lenSl Tryz.underlying22 (by conv => lhs; whnf) Sl.au) ?_
    refine L_r (r_mi rfl) ?_
    refine L_nil ?_
    refine W_block ?_
    refine W_loopF [13, 14] (fun mz_ f W => ∃ (i : Nat) (s : ByteArray), f 15 = .int .i64 i ∧ f 5 = .string s ∧ (i ≤ z.length ∧ s = showB (z.take i) { data := #[] } ∧ Nw w0 W) ∧ mz_ = z.length - i) ?_ ?_
    · refine ⟨_, 0, { data := #[] }, rfl, rfl, ?_, rfl⟩
      exact ⟨by omega, rfl, Ch.au⟩
    rintro m0 g0 w2 ⟨i, s, hf15, hf5, hR0, rfl⟩
    refine W_as 15 hf15 rfl ?_
    refine W_as 5 hf5 rfl ?_
    clear hf15 hf5
    obtain ⟨hi, hsb, hnw⟩ := hR0
    have hz := hnw.size
    have hzs := showB_size (z.take i) { data := #[] } (fun x hx => hs x (List.mem_of_mem_take hx))
    rw [← hsb, List.length_take] at hzs
    have h0s : ({ data := #[] } : ByteArray).size = 0 := rfl
    refine W_seq ?_
    refine W_region ?_
    refine L_r (r_lss rfl rfl) ?_
    refine L_nil ?_
    refine W_seq ?_
    refine W_if rfl (fun h16 => ?_) (fun h16 => ?_)
    · have hil : i < z.length := by omega
      have hrow := cellsI_row z i hil
      have hsx := hs z[i] (List.getElem_mem _)
      obtain ⟨x, hx⟩ : ∃ x, x = z[i] := ⟨_, rfl⟩
      rw [← hx] at hrow hsx
      have hls := linF_size hsx.1
      have hsx2 := hsx.2
      refine W_skip ?_
      refine W_seq ?_
      refine W_block ?_
      refine W_seq ?_
      refine W_region ?_
      refine L_r (r_ix Tryz.underlying22 (show _ = some 3 from rfl) (by conv => lhs; whnf) rfl Sl.au) ?_
      refine L_r (r_loadSlrow (us := [.string x.op, .int .i64 x.n, .string x.s]) Tryz.underlying47 rfl rfl rfl rfl Sl.au (by exact hrow)) ?_
      refine L_new (.plain rfl) rfl rfl (r_alloca rfl) (fun w3 b7 hb7 eb3 hs3 c3 => ?_)
      refine L_storerow (.plain rfl) rfl rfl Bk.au (by first | rfl | (simp; done) | assumption) (by first | rfl | assumption) (by first | rfl | (simp [Value.oneCell']; done) | assumption) (fun w4 hb4 hs4 c4 => ?_)
      refine L_nil ?_
      refine W_region ?_
      refine L_r (r_ms rfl) ?_
      refine L_r (r_loadrow Tryz.underlying47 rfl rfl Bk.au (by first | rfl | assumption)) ?_
      refine L_call (.plain rfl) rfl rfl (r_call Tryz.func42 rfl rfl rfl (by rfl)) (line_walk base x _ (hG.nw Ch.au hb) (hF.nw Ch.au hb) (by omega) hsx.1 (by omega) (by omega)) ?_
      rintro v21 w5 ⟨rfl, c5⟩
      have hz5 := c5.size
      refine L_r (r_adds rfl rfl (by first | omega | (simp only [ByteArray.size_append]; omega))) ?_
      refine L_r (r_as rfl) ?_
      refine L_nil ?_
      refine W_region ?_
      refine L_r (r_add rfl rfl (by first | exact wr_i64 (by omega) | rfl)) ?_
      refine L_r (r_mi rfl) ?_
      refine L_nil ?_
      refine ⟨⟨fx2, fx2, trivial⟩, _, ?_, i + 1, s ++ linF x, rfl, rfl, ?_, rfl⟩
      · omega
      exact ⟨by omega, by rw [showB_take hil, ← hsb, hx], Ch.au⟩
    · refine W_exit ?_
      repeat (first | refine blk_hit ?_ | refine blk_miss rfl ?_)
      refine W_seq ?_
      refine W_region ?_
      refine L_r (r_ms rfl) ?_
      refine L_r (r_as rfl) ?_
      refine L_r (r_ai rfl) ?_
      refine L_nil ?_
      refine W_ret ?_
      refine ret2 (u := .string _) (v := .int _ _) rfl rfl rfl ?_
      refine ⟨?_, Ch.au⟩
      first
      | (rw [if_neg h11]; done)
      | (have e0 : allI z = 0 := Classical.not_not.1 h11
         rw [if_pos e0, e0, hsb, List.take_of_length_le (by omega)])
/-- What the two errors hold. -/
structure Ev (base : Nat) (w : World) : Prop where
  syn : ∃ ev, w.cell? ⟨Tryz.laysParse_ren.g 15, 0, none⟩ = some ev ∧ (ev = .nilIface ∨ ∃ te pe, ev = .iface te pe)
  rng : ∃ ev, w.cell? ⟨Tryz.laysParse_ren.g 16, 0, none⟩ = some ev ∧ (ev = .nilIface ∨ ∃ te pe, ev = .iface te pe)
  lsyn : Tryz.laysParse_ren.g 15 < base
  lrng : Tryz.laysParse_ren.g 16 < base
theorem Ev.ch {base : Nat} {w w' : World} {T : Nat → Prop} (h : Ev base w) (c : Ch T w w') (hb : base ≤ w.heap.size) (hT : ∀ i, T i → base ≤ i) : Ev base w' := by
  have h1 := c.blk (Tryz.laysParse_ren.g 15) (by have := h.lsyn; omega) (fun x => by have := hT _ x; have := h.lsyn; omega)
  have h2 := c.blk (Tryz.laysParse_ren.g 16) (by have := h.lrng; omega) (fun x => by have := hT _ x; have := h.lrng; omega)
  obtain ⟨a, ha, ha2⟩ := h.syn
  obtain ⟨b, hb1, hb2⟩ := h.rng
  exact ⟨⟨a, (cell_blk h1).trans ha, ha2⟩, ⟨b, (cell_blk h2).trans hb1, hb2⟩, h.lsyn, h.lrng⟩
theorem Ev.nw {base : Nat} {w w' : World} (h : Ev base w) (c : Nw w w') (hb : base ≤ w.heap.size) : Ev base w' := h.ch c hb fun _ x => x.elim
/-- The number that a text is read as, whatever it is. -/
def parseV (l : List UInt8) : Int := match Lib.parseIntB 64 l with
  | .ok v => v
  | .range => Lib.intSat 64 l
  | _ => 0
theorem parse_use (base : Nat) (s : ByteArray) (w : World) (hs : s.size ≤ 1000000) (hE : Ev base w) : Does Tryz.prog 45 #[.string s, .int .i64 10, .int .i64 64] w (fun r w' => ∃ e, r = .tuple #[.int .i64 (parseV (bs s)), e] ∧ Nw w w') := by
  obtain ⟨e1, h1, k1⟩ := hE.syn
  obtain ⟨e2, h2, k2⟩ := hE.rng
  have hd : Lib.parseIntB 64 (bs s) = Lib.parseIntB 64 s.data.toList := rfl
  unfold parseV
  cases h : Lib.parseIntB 64 s.data.toList
  · rename_i v
    rw [hd, h]
    refine Calls.mono (Any.strconv_ParseInt_10_at64_ok Tryz.laysParse s (by omega) v h w) ?_
    rintro _ w' ⟨rfl, hw⟩
    refine ⟨_, rfl, _, rfl, ?_⟩
    rcases hw with rfl | ⟨t, rfl⟩
    · exact Ch.refl _
    · exact Ch.of_below (Lib.bytesWorld_below _ _ _)
  · rw [hd, h]
    refine Calls.mono (Any.strconv_ParseInt_10_at64_syntax Tryz.laysParse s (by omega) h e1 w h1 k1) ?_
    rintro _ w' ⟨N, rfl, _, _, hw⟩
    exact ⟨_, rfl, _, rfl, Ch.of_below hw⟩
  · rw [hd, h]
    refine Calls.mono (Any.strconv_ParseInt_10_at64_range Tryz.laysParse s (by omega) h e2 w h2 k2) ?_
    rintro _ w' ⟨N, rfl, _, _, hw⟩
    exact ⟨_, rfl, _, rfl, Ch.of_below hw⟩
theorem parseV_range (l : List UInt8) : -9223372036854775808 ≤ parseV l ∧ parseV l ≤ 9223372036854775807 := by
  unfold parseV
  split
  · rename_i v h
    unfold Lib.parseIntB at h
    split at h
    · cases h
    · simp only at h
      split at h
      · cases h
      · cases h
      · rename_i u _
        split at h
        · cases h
        · split at h
          · cases h
          · rename_i h1 h2
            injection h with h
            subst h
            split
            · rename_i hn
              have : ¬ 2 ^ (64 - 1) < u := fun hu => h2 ⟨hn, hu⟩
              omega
            · rename_i hn
              have : ¬ 2 ^ (64 - 1) ≤ u := fun hu => h1 ⟨hn, hu⟩
              omega
  · unfold Lib.intSat
    split <;> omega
  · omega
theorem cut_ex (base : Nat) (s p : ByteArray) (w : World) (hs : s.size ≤ 1000000) (hG : Gv base w) : Does Tryz.prog 43 #[.string s, .string p] w (fun r w' => ∃ a b f, r = .tuple #[.string a, .string b, .bool f] ∧ (a = sb (Lib.cut (bs s) (bs p)).1 ∧ b = sb (Lib.cut (bs s) (bs p)).2.1) ∧ Nw w w') := by
  obtain ⟨m, hm⟩ := hG.mx
  refine (cut_use s p m w hm (by omega)).mono ?_
  rintro r w' ⟨rfl, c⟩
  exact ⟨_, _, _, rfl, ⟨rfl, rfl⟩, c⟩
theorem prefix_use (s p : ByteArray) (w : World) : Does Tryz.prog 47 #[.string s, .string p] w (fun r w' => r = .bool (Lib.hasPrefix (bs s) (bs p)) ∧ w' = w) :=
  Calls.mono (Any.strings_HasPrefix Tryz.laysHasPrefix s p w) fun _ _ ⟨e, b⟩ => ⟨_, e, rfl, b⟩
/-- The instruction that a line says. -/
def insT' (t : Bool × Bool × Bool) (name arg : ByteArray) : Ins := ⟨name, if t.1 = true then parseV (bs arg) else 0, if t.1 = true then { data := #[] } else if t.2.1 = true then arg else { data := #[] }⟩
def insL (one : ByteArray) : Ins := insT' (takesF (sb (Lib.cut (bs one) [32]).1)) (sb (Lib.cut (bs one) [32]).1) (sb (Lib.cut (bs one) [32]).2.1)
def oneL (s : ByteArray) : ByteArray := sb (Lib.cut (bs s) [10]).1
def restL (s : ByteArray) : ByteArray := sb (Lib.cut (bs s) [10]).2.1
/-- A text's instructions. -/
def readN : Nat → ByteArray → List Ins → Option (List Ins)
  | 0, _, acc => some acc
  | k + 1, s, acc =>
    if s = { data := #[] } then some acc
    else if checkI (insL (oneL s)) ≠ 0 ∨ Lib.hasPrefix (bs s) (bs (linF (insL (oneL s)))) = false then none
    else readN k (restL s) (acc ++ [insL (oneL s)])
def readL (s : ByteArray) : Option (List Ins) := readN (s.size + 1) s []
theorem cut_le (l p : List UInt8) : (Lib.cut l p).1.length ≤ l.length ∧ (Lib.cut l p).2.1.length ≤ l.length := by
  unfold Lib.cut
  split
  · rw [List.length_take, List.length_drop]; omega
  · exact ⟨Nat.le_refl _, Nat.zero_le _⟩
theorem cut_less (l p : List UInt8) (hl : 0 < l.length) (hp : 0 < p.length) : (Lib.cut l p).2.1.length < l.length := by
  unfold Lib.cut
  split
  · rw [List.length_drop]; omega
  · exact hl
theorem restL_less {s : ByteArray} (h : ¬ s = { data := #[] }) : (restL s).size < s.size := by
  have h1 : 0 < (bs s).length := by
    rcases Nat.eq_zero_or_pos (bs s).length with h0 | h0
    · exfalso; apply h
      rw [← bs_inj]
      exact List.length_eq_zero_iff.1 h0
    · exact h0
  have := cut_less (bs s) [10] h1 (by decide)
  rw [bs_length] at this
  show (Lib.cut (bs s) [10]).2.1.length < _
  exact this
end Go.Proofs.YtioonbfinnigpaaGreatDoor

