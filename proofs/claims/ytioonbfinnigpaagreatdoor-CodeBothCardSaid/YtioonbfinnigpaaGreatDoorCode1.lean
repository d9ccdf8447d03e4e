/- The operators: the table; what an operator has; walked. -/
import Derived.Test.YtioonbfinnigpaaGreatDoorKind4
import Derived.Test.YtioonbfinnigpaaGreatDoorGlob
import Derived.Test.YtioonbfinnigpaaGreatDoorPackU
namespace Go.Proofs.YtioonbfinnigpaaGreatDoor
open Go Go.RowKit
set_option linter.unusedVariables false
set_option linter.unusedSimpArgs false
set_option maxRecDepth 100000
/-- All operators. -/
def opT : List (ByteArray × Bool × Bool) := [({ data := #[105, 110, 116] }, true, false), ({ data := #[116, 114, 117, 101] }, false, false), ({ data := #[102, 97, 108, 115, 101] }, false, false), ({ data := #[119, 111, 114, 100] }, false, true), ({ data := #[110, 117, 108, 108] }, false, false), ({ data := #[108, 111, 97, 100] }, true, false), ({ data := #[115, 116, 111, 114, 101] }, true, false), ({ data := #[112, 111, 112] }, false, false), ({ data := #[100, 117, 112] }, false, false), ({ data := #[115, 119, 97, 112] }, false, false), ({ data := #[97, 100, 100] }, false, false), ({ data := #[115, 117, 98] }, false, false), ({ data := #[109, 117, 108] }, false, false), ({ data := #[100, 105, 118] }, false, false), ({ data := #[114, 101, 109] }, false, false), ({ data := #[110, 101, 103] }, false, false), ({ data := #[108, 101, 115, 115] }, false, false), ({ data := #[115, 97, 109, 101] }, false, false), ({ data := #[110, 111, 116] }, false, false), ({ data := #[98, 111, 116, 104] }, false, false), ({ data := #[106, 111, 105, 110] }, false, false), ({ data := #[115, 105, 122, 101] }, false, false), ({ data := #[106, 117, 109, 112] }, true, false), ({ data := #[98, 114, 97, 110, 99, 104] }, true, false), ({ data := #[110, 101, 119] }, false, true), ({ data := #[103, 101, 116] }, false, true), ({ data := #[112, 117, 116] }, false, true), ({ data := #[99, 97, 108, 108] }, false, true), ({ data := #[97, 114, 114, 97, 121] }, false, true), ({ data := #[97, 116] }, false, false), ({ data := #[115, 101, 116] }, false, false), ({ data := #[105, 115] }, false, true), ({ data := #[99, 97, 115, 116] }, false, true), ({ data := #[114, 101, 116, 117, 114, 110] }, false, false), ({ data := #[116, 104, 114, 111, 119] }, false, false), ({ data := #[111, 117, 116] }, false, false), ({ data := #[101, 113, 117, 97, 108] }, false, false), ({ data := #[97, 110, 100] }, false, false), ({ data := #[111, 114] }, false, false), ({ data := #[120, 111, 114] }, false, false), ({ data := #[115, 104, 108] }, false, false), ({ data := #[115, 104, 114] }, false, false)]
theorem opT_len : opT.length = 42 := rfl
abbrev opr (o : ByteArray × Bool × Bool) : List Value := [.string o.1, .bool o.2.1, .bool o.2.2]
def opL : List Value := opT.flatMap opr
theorem opL_len : opL.length = 126 := by kernel_rfl
theorem flat_opr (j : Nat) (u : Value) : ∀ (L : List (ByteArray × Bool × Bool)) (i : Nat) (h : i < L.length), (opr L[i])[j]? = some u → (L.flatMap opr)[i * 3 + j]? = some u := by
  intro L
  induction L with
  | nil => intro i h; simp at h
  | cons x L ih =>
    intro i h hu
    have hj : j < 3 := by have := (List.getElem?_eq_some_iff.1 hu).1; simpa using this
    cases i with
    | zero => rw [List.flatMap_cons, List.getElem?_append_left (by simp; omega)]; simpa using hu
    | succ i =>
      have := ih i (by simpa using h) (by simpa using hu)
      rw [List.flatMap_cons, List.getElem?_append_right (by simp; omega)]
      rw [show (i + 1) * 3 + j - (opr x).length = i * 3 + j by simp; omega]
      exact this
theorem opL_row (i : Nat) (h : i < opT.length) (j : Nat) (u : Value) (hu : (opr opT[i])[j]? = some u) : opL[i * 3 + j]? = some u := flat_opr j u opT i h hu
/-- The package-level variables are as they are laid, and lie below. -/
structure Gv (base : Nat) (w : World) : Prop where
  tab : Tabs base w
  mx : ∃ m, w.cell? ⟨Tryz.laysCut_ren.g 1, 0, none⟩ = some (.int .i64 m)
  lmx : Tryz.laysCut_ren.g 1 < base
  ops : ∀ (i : Nat) (u : Value), opL[i]? = some u → w.cell? ⟨0, i, none⟩ = some u
  bops : ∃ cs t fr, w.heap[0]? = some (.cells cs t fr)
  lops : 0 < base
theorem Gv.ch {base : Nat} {w w' : World} {T : Nat → Prop} (h : Gv base w) (c : Ch T w w') (hb : base ≤ w.heap.size) (hT : ∀ i, T i → base ≤ i) : Gv base w' := by
  have h1 := c.blk (Tryz.laysCut_ren.g 1) (by have := h.lmx; omega) (fun x => by have := hT _ x; have := h.lmx; omega)
  have h2 := c.blk 0 (by have := h.lops; omega) (fun x => by have := hT _ x; have := h.lops; omega)
  obtain ⟨m, hm⟩ := h.mx
  obtain ⟨cs, t, fr, hbo⟩ := h.bops
  exact ⟨h.tab.ch c hb hT, ⟨m, (cell_blk h1).trans hm⟩, h.lmx, fun i u hu => (cell_blk h2).trans (h.ops i u hu), ⟨cs, t, fr, h2.trans hbo⟩, h.lops⟩
theorem Gv.nw {base : Nat} {w w' : World} (h : Gv base w) (c : Nw w w') (hb : base ≤ w.heap.size) : Gv base w' := h.ch c hb fun _ x => x.elim
/-- The table, as a slice of it. -/
theorem Gv.sl {base : Nat} {w : World} (h : Gv base w) : Sl w (.slice (some ⟨0, 0, none⟩) 42 42) 3 42 opL := by
  obtain ⟨cs, t, fr, hb⟩ := h.bops
  refine ⟨opL_len, .inr ⟨_, 0, 42, cs, t, rfl, Nat.le_refl _, ⟨fr, hb⟩, fun i x hx => ?_⟩⟩
  have h1 := h.ops i x hx
  rw [cell_of_row w _ i cs t fr hb] at h1
  rw [Nat.zero_add]; exact h1
/-- An operator's number; below 0: there is none. -/
def idxF (s : ByteArray) : List (ByteArray × Bool × Bool) → Nat → Option Nat
  | [], _ => none
  | o :: L, n => if o.1 = s then some n else idxF s L (n + 1)
def opIx (s : ByteArray) : Option Nat := idxF s opT 0
def zOf : Option Nat → Int
  | some n => n
  | none => -1
def opZ (s : ByteArray) : Int := zOf (opIx s)
theorem idxF_at {s : ByteArray} : ∀ (L : List (ByteArray × Bool × Bool)) (n i : Nat) (h : i < L.length), L[i].1 = s → (∀ j (hj : j < L.length), j < i → L[j].1 ≠ s) → idxF s L n = some (n + i)
  | o :: L, n, 0, _, h1, _ => by unfold idxF; exact if_pos h1
  | o :: L, n, i + 1, h, h1, h2 => by
    unfold idxF
    have h0 : o.1 ≠ s := h2 0 (by simp) (by omega)
    rw [if_neg h0, idxF_at L (n + 1) i (by simpa using h) h1 (fun j hj hji => h2 (j + 1) (by simpa using hj) (by omega))]
    congr 1; omega
theorem idxF_no {s : ByteArray} : ∀ (L : List (ByteArray × Bool × Bool)) (n : Nat), (∀ j (hj : j < L.length), L[j].1 ≠ s) → idxF s L n = none
  | [], _, _ => rfl
  | o :: L, n, h => by
    unfold idxF
    have h0 : o.1 ≠ s := h 0 (by simp)
    rw [if_neg h0]
    exact idxF_no L (n + 1) fun j hj => h (j + 1) (by simpa using hj)
theorem idxF_some {s : ByteArray} : ∀ (L : List (ByteArray × Bool × Bool)) (n k : Nat), idxF s L n = some k → ∃ i, ∃ h : i < L.length, k = n + i ∧ L[i].1 = s
  | [], n, k, h => by cases h
  | o :: L, n, k, h => by
    unfold idxF at h
    split at h
    · rename_i e
      injection h with h
      exact ⟨0, by simp, by omega, e⟩
    · obtain ⟨i, hi, h1, h2⟩ := idxF_some L (n + 1) k h
      exact ⟨i + 1, by simpa using hi, by omega, h2⟩
theorem opIx_some {s : ByteArray} {k : Nat} (h : opIx s = some k) : ∃ hk : k < opT.length, opT[k].1 = s := by
  obtain ⟨i, hi, h1, h2⟩ := idxF_some _ _ _ h
  have e : k = i := by omega
  subst e
  exact ⟨hi, h2⟩
theorem findc_walk (o : ByteArray × Bool × Bool) (s : ByteArray) (q : Nat) (w0 : World) (hq : Bk w0 q #[.string s] 9) : Does Tryz.prog 62 #[.agg #[.string o.1, .bool o.2.1, .bool o.2.2], .pointer (some ⟨q, 0, none⟩)] w0 (fun r w' => r = .bool (decide (o.1 = s)) ∧ Nw w0 w') := by
  refine fn_of (n := 8) (args := [.agg #[.string o.1, .bool o.2.1, .bool o.2.2], .pointer (some ⟨q, 0, none⟩)]) Tryz.func62 rfl rfl rfl ?_
  refine W_seq ?_
  refine W_region ?_
  refine L_new (.plain rfl) rfl rfl (r_boxa rfl) (fun w1 b2 hb2 eb1 hs1 c1 => ?_)
  refine L_r (r_ab rfl) ?_
  refine L_nil ?_
  refine W_seq ?_
  refine W_region ?_
  refine L_r (r_fieldb Tryz.underlying59 rfl (show _ = some 1 from rfl) rfl rfl (show _ = 0 from rfl)) ?_
  refine L_r (r_lb rfl rfl) ?_
  refine L_r (r_lb rfl rfl) ?_
  refine L_r (r_eqls rfl rfl) ?_
  refine L_r (r_ab rfl) ?_
  refine L_nil ?_
  refine W_ret ?_
  refine ret1 (v := .bool _) rfl rfl ?_
  exact ⟨rfl, Ch.au⟩
theorem ixfunc_walk (T : List (ByteArray × Bool × Bool)) (v : Value) (s : ByteArray) (q : Nat) (w0 : World) (hv : Sl w0 v 3 T.length (T.flatMap opr)) (hl : T.length ≤ 1000) (hq : Bk w0 q #[.string s] 9) : Does Tryz.prog 61 #[v, .func (.func 62) #[] #[.pointer (some ⟨q, 0, none⟩)]] w0 (fun r w' => r = .int .i64 (zOf (idxF s T 0)) ∧ Nw w0 w') := by
  refine fn_of (n := 19) (args := [v, .func (.func 62) #[] #[.pointer (some ⟨q, 0, none⟩)]]) Tryz.func61 rfl rfl rfl ?_
  refine W_seq ?_
  refine W_region ?_
  refine L_r (r_ai rfl) ?_
  refine L_nil ?_
  refine W_seq ?_
  refine W_seq ?_
  refine W_region ?_
  refine L_r (r_mv) ?_
  refine L_r (r_lenSl Tryz.underlying96 (by conv => lhs; whnf) Sl.au) ?_
  refine L_r (r_mi rfl) ?_
  refine L_nil ?_
  refine W_block ?_
  refine W_loopF [0, 1, 7] (fun mz_ f W => ∃ (i : Nat), f 8 = .int .i64 i ∧ (i ≤ T.length ∧ (∀ j (hj : j < T.length), j < i → T[j].1 ≠ s) ∧ Nw w0 W) ∧ mz_ = T.length - i) ?_ ?_
  · refine ⟨_, 0, rfl, ?_, rfl⟩
    exact ⟨by omega, fun j hj hji => absurd hji (by omega), Ch.au⟩
  rintro m0 g0 w1 ⟨i, hf8, hR0, rfl⟩
  refine W_as 8 hf8 rfl ?_
  clear hf8
  obtain ⟨hi, hn, hnw⟩ := hR0
  have hz := hnw.size
  refine W_seq ?_
  refine W_region ?_
  refine L_r (r_lss rfl rfl) ?_
  refine L_nil ?_
  refine W_seq ?_
  refine W_if rfl (fun h9 => ?_) (fun h9 => ?_)
  · have hil : i < T.length := by omega
    have hrow := fun j u => flat_opr j u T i hil
    obtain ⟨o, ho⟩ : ∃ o, o = T[i] := ⟨_, rfl⟩
    rw [← ho] at hrow
    refine W_skip ?_
    refine W_seq ?_
    refine W_block ?_
    refine W_seq ?_
    refine W_region ?_
    refine L_r (r_mi rfl) ?_
    refine L_r (r_ai rfl) ?_
    refine L_nil ?_
    refine W_seq ?_
    refine W_region ?_
    refine L_r (r_mv) ?_
    refine L_r (r_mv) ?_
    refine L_r (r_mi rfl) ?_
    refine L_r (r_ix Tryz.underlying96 (show _ = some 3 from rfl) (by conv => lhs; whnf) rfl Sl.au) ?_
    refine L_r (r_loadSlrow (us := [.string o.1, .bool o.2.1, .bool o.2.2]) Tryz.underlying59 rfl rfl rfl rfl Sl.au (by exact hrow)) ?_
    refine L_call (.plain rfl) rfl rfl (r_call Tryz.func62 rfl rfl rfl (by rfl)) (findc_walk o s q _ Bk.au) ?_
    rintro v16 w2 ⟨rfl, c2⟩
    have hz2 := c2.size
    refine L_nil ?_
    refine W_bool rfl (fun h16 => ?_) (fun h16 => ?_)
    · refine W_seq ?_
      refine W_region ?_
      refine L_r (r_mi rfl) ?_
      refine L_r (r_ai rfl) ?_
      refine L_nil ?_
      refine W_ret ?_
      refine ret1 (v := .int _ _) rfl rfl ?_
      refine ⟨?_, Ch.au⟩
      first
      | (have := idxF_at (s := s) T 0 i hil (by rw [← ho]; simpa using h16) hn
         rw [this, Nat.zero_add]; rfl)
      | (rw [idxF_no T 0 fun j hj => hn j hj (by omega)]; rfl)
    · refine W_skip ?_
      refine W_region ?_
      refine L_r (r_add rfl rfl (by first | exact wr_i64 (by omega) | rfl)) ?_
      refine L_r (r_mi rfl) ?_
      refine L_nil ?_
      refine ⟨⟨fx2, fx2, fx2, trivial⟩, _, ?_, i + 1, rfl, ?_, rfl⟩
      · omega
      refine ⟨by omega, fun j hj hji => ?_, Ch.au⟩
      rcases Nat.lt_or_ge j i with h | h
      · exact hn j hj h
      · have e : j = i := by omega
        subst e
        rw [← ho]; simpa using h16
  · refine W_exit ?_
    repeat (first | refine blk_hit ?_ | refine blk_miss rfl ?_)
    refine W_seq ?_
    refine W_region ?_
    refine L_r (r_ai rfl) ?_
    refine L_nil ?_
    refine W_ret ?_
    refine ret1 (v := .int _ _) rfl rfl ?_
    refine ⟨?_, Ch.au⟩
    first
    | (have := idxF_at (s := s) T 0 i hil (by rw [← ho]; simpa using h16) hn
       rw [this, Nat.zero_add]; rfl)
    | (rw [idxF_no T 0 fun j hj => hn j hj (by omega)]; rfl)
theorem Gv.sl' {base : Nat} {w : World} (h : Gv base w) : Sl w (.slice (some ⟨0, 0, none⟩) 42 42) 3 opT.length (opT.flatMap opr) := h.sl
theorem find_walk (base : Nat) (s : ByteArray) (w0 : World) (hG : Gv base w0) (hb : base ≤ w0.heap.size) : Does Tryz.prog 38 #[.string s] w0 (fun r w' => r = .int .i64 (opZ s) ∧ Nw w0 w') := by
  refine fn_of (n := 6) (args := [.string s]) Tryz.func38 rfl rfl rfl ?_
  refine W_seq ?_
  refine W_region ?_
  refine L_new (.plain rfl) rfl rfl (r_box1 (v := .string _) rfl rfl) (fun w1 b1 hb1 eb1 hs1 c1 => ?_)
  refine L_r (r_ai rfl) ?_
  refine L_nil ?_
  refine W_seq ?_
  refine W_region ?_
  refine L_r (r_sliceG Tryz.underlying60 (show _ = some 3 from rfl) rfl) ?_
  refine L_r (r_funcL (l1 := []) (l2 := [.pointer _]) rfl rfl) ?_
  refine L_call (.plain rfl) rfl rfl (r_call Tryz.func61 rfl rfl rfl (by rfl)) (ixfunc_walk opT _ s b1 _ (hG.nw Ch.au hb).sl' (by rw [opT_len]; decide) Bk.au) ?_
  rintro v5 w2 ⟨rfl, c2⟩
  have hz2 := c2.size
  refine L_r (r_ai rfl) ?_
  refine L_nil ?_
  refine W_ret ?_
  refine ret1 (v := .int _ _) rfl rfl ?_
  exact ⟨rfl, Ch.au⟩
end Go.Proofs.YtioonbfinnigpaaGreatDoor

