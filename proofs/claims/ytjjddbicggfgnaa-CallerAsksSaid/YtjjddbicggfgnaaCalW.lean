/- A caller in memory; its small functions, walked. -/
import Derived.Test.YtjjddbicggfgnaaCal
namespace Go.Proofs.Ytjjddbicggfgnaa
open Go Go.RowKit
set_option linter.unusedVariables false
set_option linter.unusedSimpArgs false
set_option maxRecDepth 100000
abbrev idv (v : Value) : Value := v
/-- A caller: its block, its map, its rows, its calls; all of it where F says. -/
structure CalAt (base : Nat) (F : Nat → Prop) (w : World) (b bm : Nat) (vo vr : Value) (g : Int → Nat) (C : Cal) : Prop where
  bk : Bk w b (C.row bm vo vr) 65
  mp : Mp (.int .u64) idv w bm (pm g C.op)
  cl : ∀ p ∈ C.op, Bk w (g p.1) p.2.row 69
  inj : ∀ p ∈ C.op, ∀ q ∈ C.op, g p.1 = g q.1 → p.1 = q.1
  ow : Ow w base 33 8 vo C.out.length (cellsM C.out)
  wr : Ow w base 58 3 vr C.res.length (cellsT C.res)
  fb : F b
  fm : F bm
  fo : ∀ j, vo.ownBlock = some j → F j
  fr : ∀ j, vr.ownBlock = some j → F j
  fc : ∀ p ∈ C.op, F (g p.1)
  fF : ∀ j, F j → base ≤ j ∧ j < w.heap.size
variable {base : Nat} {F : Nat → Prop} {w w' : World} {b bm : Nat} {vo vr : Value} {g : Int → Nat} {C : Cal}
abbrev CalC (base : Nat) (F : Nat → Prop) (w w' : World) : Prop := Ch (fun j => base ≤ j ∧ F j) w w'
/-- And what came since. -/
def ext (F : Nat → Prop) (w w' : World) (j : Nat) : Prop := F j ∨ (w.heap.size ≤ j ∧ j < w'.heap.size)
theorem CalAt.ne (h : CalAt base F w b bm vo vr g C) : bm ≠ b := h.mp.ne h.bk
theorem CalAt.nec (h : CalAt base F w b bm vo vr g C) {p : Int × Opn} (hp : p ∈ C.op) : g p.1 ≠ b ∧ g p.1 ≠ bm ∧ vo.ownBlock ≠ some (g p.1) ∧ vr.ownBlock ≠ some (g p.1) := by
  have hc := h.cl p hp
  refine ⟨Bk.ne hc h.bk (by decide), fun e => h.mp.ne hc e.symm, fun e => ?_, fun e => ?_⟩
  · obtain ⟨cs, hb⟩ := h.ow.bk e
    exact Bk.ne hc hb (by decide) rfl
  · obtain ⟨cs, hb⟩ := h.wr.bk e
    exact Bk.ne hc hb (by decide) rfl
theorem CalAt.nov (h : CalAt base F w b bm vo vr g C) : vo.ownBlock ≠ some b ∧ vo.ownBlock ≠ some bm ∧ vr.ownBlock ≠ some b ∧ vr.ownBlock ≠ some bm ∧ (∀ j, vo.ownBlock = some j → vr.ownBlock ≠ some j) := by
  refine ⟨fun e => ?_, fun e => ?_, fun e => ?_, fun e => ?_, fun j e e2 => ?_⟩
  · obtain ⟨cs, hb⟩ := h.ow.bk e
    exact Bk.ne h.bk hb (by decide) rfl
  · obtain ⟨cs, hb⟩ := h.ow.bk e
    exact h.mp.ne hb rfl
  · obtain ⟨cs, hb⟩ := h.wr.bk e
    exact Bk.ne h.bk hb (by decide) rfl
  · obtain ⟨cs, hb⟩ := h.wr.bk e
    exact h.mp.ne hb rfl
  · obtain ⟨cs, hb⟩ := h.ow.bk e
    obtain ⟨cs2, hb2⟩ := h.wr.bk e2
    exact Bk.ne hb hb2 (by decide) rfl
/-- Another one's writing leaves it. -/
theorem CalAt.ch {X : Nat → Prop} (h : CalAt base F w b bm vo vr g C) (c : Ch X w w') (hX : ∀ j, F j → ¬ X j) : CalAt base F w' b bm vo vr g C :=
  ⟨h.bk.ch c (hX _ h.fb), h.mp.ch c (hX _ h.fm), fun p hp => (h.cl p hp).ch c (hX _ (h.fc p hp)), h.inj, h.ow.to fun i hi => Sm.step c (fun _ => hX i (h.fo i hi)) (Sm.refl _ _), h.wr.to fun i hi => Sm.step c (fun _ => hX i (h.fr i hi)) (Sm.refl _ _),
    h.fb, h.fm, h.fo, h.fr, h.fc, fun j hj => ⟨(h.fF j hj).1, Nat.lt_of_lt_of_le (h.fF j hj).2 c.size⟩⟩
theorem CalAt.nw (h : CalAt base F w b bm vo vr g C) (c : Nw w w') : CalAt base F w' b bm vo vr g C := h.ch c fun _ _ => not_no
theorem CalAt.base' {base' : Nat} (h : CalAt base F w b bm vo vr g C) (hb : base' ≤ base) : CalAt base' F w b bm vo vr g C :=
  ⟨h.bk, h.mp, h.cl, h.inj, h.ow.mono hb, h.wr.mono hb, h.fb, h.fm, h.fo, h.fr, h.fc, fun j hj => ⟨Nat.le_trans hb (h.fF j hj).1, (h.fF j hj).2⟩⟩
/-- More is its own. -/
theorem CalAt.wid {F' : Nat → Prop} (h : CalAt base F w b bm vo vr g C) (hF : ∀ j, F j → F' j) (hB : ∀ j, F' j → base ≤ j ∧ j < w.heap.size) : CalAt base F' w b bm vo vr g C :=
  ⟨h.bk, h.mp, h.cl, h.inj, h.ow, h.wr, hF _ h.fb, hF _ h.fm, fun j hj => hF _ (h.fo j hj), fun j hj => hF _ (h.fr j hj), fun p hp => hF _ (h.fc p hp), hB⟩
theorem below_walk (b bm : Nat) (vo vr : Value) (g : Int → Nat) (C : Cal) (w0 : World) (hbk : Bk w0 b (C.row bm vo vr) 65) (hmp : Mp (.int .u64) idv w0 bm (pm g C.op)) (hA : C.Asc) (hL : C.op.length ≤ 100000) : Does Try.prog 23 #[.pointer (some ⟨b, 0, none⟩)] w0 (fun r w' => r = .int .u64 (belowC C) ∧ Nw w0 w') := by
  have hne := hmp.ne hbk
  have hls := hA.lst
  have hB := hA.bel
  have hpl := pm_len g C.op
  refine fn_of (n := 23) (args := [.pointer (some ⟨b, 0, none⟩)]) Try.func23 rfl rfl rfl ?_
  refine W_seq ?_
  refine W_region ?_
  refine L_r (r_ai rfl) ?_
  refine L_nil ?_
  refine W_seq ?_
  refine W_region ?_
  refine L_r (r_mp rfl) ?_
  refine L_r (r_nilCheck rfl) ?_
  refine L_r (r_fieldb Try.underlying65 rfl (show _ = some 1 from rfl) rfl rfl (show _ = 3 from rfl)) ?_
  refine L_r (r_lb rfl rfl) ?_
  refine L_r (r_add rfl rfl (by first | exact wr_u64 (by omega) | rfl)) ?_
  refine L_r (r_ai rfl) ?_
  refine L_nil ?_
  refine W_seq ?_
  refine W_seq ?_
  refine W_region ?_
  refine L_r (r_mp rfl) ?_
  refine L_r (r_nilCheck rfl) ?_
  refine L_r (r_fieldb Try.underlying65 rfl (show _ = some 1 from rfl) rfl rfl (show _ = 4 from rfl)) ?_
  refine L_r (r_lb rfl rfl) ?_
  refine L_rangem Try.underlying63 (.plain rfl) rfl rfl Mp.au (fun w1 b14 hit14 eb1 hs1 c1 => ?_)
  refine L_nil ?_
  refine W_block ?_
  refine W_loopF [14] (fun mz_ f W => ∃ (D : List (Int × Value)) (n : Int), f 3 = .int .u64 n ∧ (Itm (.int .u64) idv W b14 bm (pm g C.op) D ∧ (∀ p ∈ D, n ≤ p.1) ∧ n ≤ C.last + 1 ∧ (n = C.last + 1 ∨ ∃ p ∈ D, n = p.1) ∧ Nw w0 W) ∧ mz_ = (pm g C.op).length - D.length) ?_ ?_
  · refine ⟨_, [], C.last + 1, rfl, ?_, rfl⟩
    exact ⟨Itm.au, fun p hp => absurd hp (by simp), Int.le_refl _, .inl rfl, Ch.au⟩
  rintro m0 g0 w2 ⟨D, n, hf3, hR0, rfl⟩
  refine W_as 3 hf3 rfl ?_
  clear hf3
  obtain ⟨hIt, hn1, hn2, hn3, hnw⟩ := hR0
  have hz := hnw.size
  have hDL := hIt.le
  have hnb := hIt.lt
  refine W_seq ?_
  refine W_region ?_
  refine L_nextm (ke := .int .u64) (ve := idv) (fun _ _ h => by cases h; rfl) (.plain rfl) rfl rfl Itm.au (fun hall15 => ?_) (fun p15 w3 hp15 hnp15 hlt15 hit15 hs3 c3 => ?_)
  · refine L_r (r_ext1_0 rfl) ?_
    refine L_nil ?_
    refine W_seq ?_
    refine W_false rfl ?_
    refine W_exit ?_
    repeat (first | refine blk_hit ?_ | refine blk_miss rfl ?_)
    refine W_seq ?_
    refine W_region ?_
    refine L_r (r_mi rfl) ?_
    refine L_r (r_ai rfl) ?_
    refine L_nil ?_
    refine W_ret ?_
    refine ret1 (v := .int _ _) rfl rfl ?_
    refine ⟨?_, Ch.au⟩
    congr 1
    have hsub := hIt.sub
    have key : ∀ p ∈ pm g C.op, ∃ q ∈ C.op, p.1 = q.1 := fun p hp => by obtain ⟨q, hq, rfl⟩ := List.mem_map.1 hp; exact ⟨q, hq, rfl⟩
    have key2 : ∀ q ∈ C.op, ∃ p ∈ D, p.1 = q.1 := fun q hq => ⟨(q.1, pt (g q.1)), hall15 _ (List.mem_map.2 ⟨q, hq, rfl⟩), rfl⟩
    have h1 : n ≤ belowC C := by
      rcases hB.2.2.2 with h | ⟨q, hq, h⟩
      · omega
      · obtain ⟨p, hp, e⟩ := key2 q hq
        have := hn1 p hp; omega
    have h2 : belowC C ≤ n := by
      rcases hn3 with h | ⟨p, hp, h⟩
      · omega
      · obtain ⟨q, hq, e⟩ := key p (hsub p hp)
        have := hB.1 q hq; omega
    omega
  · refine L_r (r_ext3_0 rfl) ?_
    refine L_nil ?_
    refine W_seq ?_
    refine W_true rfl ?_
    refine W_skip ?_
    refine W_block ?_
    refine W_seq ?_
    refine W_region ?_
    refine L_r (r_entry rfl Itm.au) ?_
    refine L_r (r_ext2_0 rfl) ?_
    refine L_r (r_ai rfl) ?_
    refine L_nil ?_
    refine W_region ?_
    refine L_r (r_mi rfl) ?_
    refine L_r (r_mi rfl) ?_
    refine L_r (r_min rfl rfl) ?_
    refine L_r (r_ai rfl) ?_
    refine L_nil ?_
    refine ⟨⟨rfl, trivial⟩, _, ?_, D ++ [p15], (if p15.1 < n then p15.1 else n), rfl, ?_, rfl⟩
    · (simp only [List.length_append, List.length_cons, List.length_nil]; omega)
    refine ⟨Itm.au, fun p hp => ?_, by split <;> omega, ?_, Ch.au⟩
    · rcases List.mem_append.1 hp with hp | hp
      · have := hn1 p hp; split <;> omega
      · rw [List.mem_singleton] at hp; subst hp; split <;> omega
    · by_cases hc : p15.1 < n
      · exact .inr ⟨p15, by simp, by rw [if_pos hc]⟩
      · rw [if_neg hc]
        rcases hn3 with h | ⟨p, hp, h⟩
        · exact .inl h
        · exact .inr ⟨p, List.mem_append_left _ hp, h⟩
end Go.Proofs.Ytjjddbicggfgnaa

