/- A caller: time for all calls. -/
import Derived.Test.YtjjddbicggfgnaaCalT
import Derived.Test.YtjjddbicggfgnaaSortS
namespace Go.Proofs.Ytjjddbicggfgnaa
open Go Go.RowKit
set_option linter.unusedVariables false
set_option linter.unusedSimpArgs false
set_option maxRecDepth 100000
variable {base : Nat} {F : Nat → Prop} {w w' : World} {b bm : Nat} {vo vr : Value} {g : Int → Nat} {C : Cal}
def kcl (l : List Int) : List Value := l.map fun k => .int .u64 k
theorem kcl_append (l m : List Int) : kcl (l ++ m) = kcl l ++ kcl m := by simp [kcl]
theorem kcl_len (l : List Int) : (kcl l).length = l.length := by simp [kcl]
theorem kcl_get (l : List Int) (i : Nat) (h : i < l.length) : (kcl l)[i]? = some (.int .u64 l[i]) := by simp [kcl, h]
theorem kcl_nat {l : List Int} (h : ∀ k ∈ l, 0 ≤ k) : kcl l = ucells (l.map Int.toNat) := by
  unfold kcl ucells
  rw [List.map_map]
  apply List.map_congr_left
  intro k hk
  have := h k hk
  show Value.int .u64 k = .int .u64 ((k.toNat : Nat) : Int)
  rw [Int.toNat_of_nonneg this]
theorem srt_pair {Y : List Nat} (h : Srt 0 Y.length Y) : Y.Pairwise (· ≤ ·) := by
  rw [List.pairwise_iff_getElem]
  intro i j hi hj hij
  have := h i j (by omega) hij hj
  rwa [gt_get hi, gt_get hj] at this
theorem pair_eq : ∀ {l m : List Nat}, l.Perm m → l.Pairwise (· ≤ ·) → m.Pairwise (· ≤ ·) → l = m
  | [], m, h, _, _ => (List.nil_perm.1 h).symm
  | x :: l, [], h, _, _ => absurd (h.length_eq) (by simp)
  | x :: l, y :: m, h, h1, h2 => by
    rw [List.pairwise_cons] at h1 h2
    have e : x = y := by
      have a : x ∈ y :: m := h.mem_iff.1 List.mem_cons_self
      have c : y ∈ x :: l := h.mem_iff.2 List.mem_cons_self
      rcases List.mem_cons.1 a with a | a
      · exact a
      · rcases List.mem_cons.1 c with c | c
        · exact c.symm
        · have := h2.1 x a; have := h1.1 y c; omega
    subst e
    rw [pair_eq (List.Perm.cons_inv h) h1.2 h2.2]
/-- The numbers, sorted, whatever the order in which they came. -/
theorem keys_sorted {C : Cal} (hA : C.Asc) {D : List (Int × Value)} {Y : List Nat} (hs : ∀ p ∈ D, p ∈ pm g C.op) (ha : ∀ p ∈ pm g C.op, p ∈ D) (hn : D.Nodup) (hp : Y.Perm (D.map fun p => p.1.toNat)) (hY : Srt 0 Y.length Y) :
    Y = (C.op.map (·.1)).map Int.toNat := by
  have hpn : (pm g C.op).Nodup := by
    have h := hA.nd
    rw [← pm_keys g] at h
    exact List.Pairwise.of_map (f := fun p : Int × Value => p.1) (fun a b hab e => hab (by rw [e])) h
  have h1 : D.Perm (pm g C.op) := (List.perm_ext_iff_of_nodup hn hpn).2 fun p => ⟨hs p, ha p⟩
  have h2 : (D.map fun p => p.1.toNat).Perm ((pm g C.op).map fun p => p.1.toNat) := h1.map _
  have h3 : ((pm g C.op).map fun p => p.1.toNat) = (C.op.map (·.1)).map Int.toNat := by simp [pm]
  refine pair_eq ((hp.trans h2).trans (by rw [h3])) (srt_pair hY) ?_
  rw [List.pairwise_map]
  refine hA.asc.imp_of_mem ?_
  intro x y hx hy hxy
  omega
theorem ticks_len (C : Cal) (l : List Int) : (l.foldl tick1 C).op.length ≤ C.op.length ∧ (l.foldl tick1 C).out.length ≤ C.out.length + l.length ∧ (l.foldl tick1 C).res.length ≤ C.res.length + l.length := by
  induction l generalizing C with
  | nil => exact ⟨Nat.le_refl _, Nat.le_refl _, Nat.le_refl _⟩
  | cons k l ih =>
    have h := ih (tick1 C k)
    have h1 : (tick1 C k).op.length ≤ C.op.length ∧ (tick1 C k).out.length ≤ C.out.length + 1 ∧ (tick1 C k).res.length ≤ C.res.length + 1 := by
      unfold tick1
      cases ho : mget C.op k with
      | none => exact ⟨Nat.le_refl _, Nat.le_succ _, Nat.le_succ _⟩
      | some o =>
        simp only
        split
        · exact ⟨by show (mupd C.op k _).length ≤ _; rw [mupd_len]; exact Nat.le_refl _, Nat.le_succ _, Nat.le_succ _⟩
        · split
          · exact ⟨List.length_filter_le _ _, Nat.le_succ _, by show (C.res ++ [_]).length ≤ _; simp⟩
          · exact ⟨by show (mupd C.op k _).length ≤ _; rw [mupd_len]; exact Nat.le_refl _, by show (C.out ++ [_]).length ≤ _; simp, Nat.le_succ _⟩
    rw [List.foldl_cons, List.length_cons]
    omega
theorem tick_at {C : Cal} (hA : C.Asc) {ks : List Int} (hks : ks = C.op.map (·.1)) {i : Nat} (h : i < ks.length) : ∃ o, mget ((ks.take i).foldl tick1 C).op ks[i] = some o := by
  subst hks
  have hi : i < C.op.length := by simpa using h
  refine ⟨C.op[i].2, ?_⟩
  have hnd := hA.nd
  rw [ticks_other]
  · have := hA.get (List.getElem_mem hi)
    simpa using this
  · intro hm
    obtain ⟨j, hj, e⟩ := List.mem_iff_getElem.1 hm
    rw [List.length_take] at hj
    rw [List.getElem_take] at e
    have := (List.getElem_inj hnd).1 e
    omega
theorem tick_next {C : Cal} {ks : List Int} {i : Nat} (h : i < ks.length) : (ks.take (i + 1)).foldl tick1 C = tick1 ((ks.take i).foldl tick1 C) ks[i] := by
  rw [List.take_succ_eq_append_getElem h, List.foldl_append]; rfl
theorem ext_ext {w1 w2 : World} {F1 : Nat → Prop} (h : ∀ j, F1 j → ext F w w1 j) (h1 : w.heap.size ≤ w1.heap.size) (h2 : w1.heap.size ≤ w2.heap.size) : ∀ j, ext F1 w1 w2 j → ext F w w2 j := by
  rintro j (k | k)
  · rcases h j k with k | k
    · exact .inl k
    · exact .inr ⟨k.1, by omega⟩
  · exact .inr ⟨by omega, k.2⟩
theorem calc_ext {w1 w2 : World} {F1 : Nat → Prop} (c : CalC base F w w1) (c' : CalC base F1 w1 w2) (h : ∀ j, F1 j → ext F w w1 j) : CalC base F w w2 :=
  Ch.fresh c c' fun i hi he => by
    rcases h i he.2 with k | k
    · exact ⟨he.1, k⟩
    · have := k.1; omega
theorem each_walk (base : Nat) (F : Nat → Prop) (b bm bt : Nat) (vo vr : Value) (g : Int → Nat) (C : Cal) (w0 : World) (hC : CalAt base F w0 b bm vo vr g C) (hG : C.Good) (hbt : Bk w0 bt #[.pointer (some ⟨b, 0, none⟩)] 22) (hnF : ¬ F bt) (hl : C.op.length ≤ 50000) (hol : C.out.length ≤ 9000000) (hrl : C.res.length ≤ 900000) (hbs : base ≤ w0.heap.size) : Does Try.prog 29 #[.pointer (some ⟨b, 0, none⟩), .func (.func 30) #[] #[.pointer (some ⟨bt, 0, none⟩)]] w0 (fun r w' => ∃ vo' vr', r = .tuple #[] ∧ CalAt base (ext F w0 w') w' b bm vo' vr' g (tick C) ∧ CalC base F w0 w') := by
  have hbk := hC.bk
  have hmp := hC.mp
  have hne := hC.ne
  have hpl := pm_len g C.op
  have hlb := hbk.lt
  have hlm := hmp.lt
  have hlt' := hbt.lt
  refine fn_of (n := 38) (args := [.pointer (some ⟨b, 0, none⟩), .func (.func 30) #[] #[.pointer (some ⟨bt, 0, none⟩)]]) Try.func29 rfl rfl rfl ?_
  refine W_seq ?_
  refine W_region ?_
  refine L_r (r_av) ?_
  refine L_nil ?_
  refine W_seq ?_
  refine W_seq ?_
  refine W_region ?_
  refine L_r (r_mp rfl) ?_
  refine L_r (r_nilCheck rfl) ?_
  refine L_r (r_fieldb Try.underlying65 rfl (show _ = some 1 from rfl) rfl rfl (show _ = 4 from rfl)) ?_
  refine L_r (r_lb rfl rfl) ?_
  refine L_rangem Try.underlying63 (.plain rfl) rfl rfl Mp.au (fun w1 b12 hit12 eb1 hs1 c1 => ?_)
  refine L_nil ?_
  refine W_block ?_
  refine W_loopF [0, 1, 12] (fun mz_ f W => ∃ (D : List (Int × Value)) (v4 : Value), f 4 = v4 ∧ (Itm (.int .u64) idv W b12 bm (pm g C.op) D ∧ Ow W w0.heap.size 26 1 v4 D.length (kcl (D.map (·.1))) ∧ Nw w0 W) ∧ mz_ = (pm g C.op).length - D.length) ?_ ?_
  · refine ⟨_, [], .slice none 0 0, rfl, ?_, rfl⟩
    exact ⟨Itm.au, Ow.nil _ _ _ _, Ch.au⟩
  rintro m0 g0 w2 ⟨D, v4, hf4, hR0, rfl⟩
  refine W_as 4 hf4 rfl ?_
  clear hf4
  obtain ⟨hIt, hO4, hnw⟩ := hR0
  have hz := hnw.size
  have hDL := hIt.le
  have hnb := hIt.lt
  have hMp := hIt.mp
  have hne4 : v4.ownBlock ≠ some b12 := fun e => by obtain ⟨cs, hb⟩ := hO4.bk e; exact hIt.ne_bk hb rfl
  obtain ⟨q4, hq4⟩ : ∃ x, x = v4 := ⟨_, rfl⟩
  refine W_seq ?_
  refine W_region ?_
  refine L_nextm (ke := .int .u64) (ve := idv) (fun _ _ h => by cases h; rfl) (.plain rfl) rfl rfl Itm.au (fun hall13 => ?_) (fun p13 w3 hp13 hnp13 hlt13 hit13 hs3 c3 => ?_)
  · refine L_r (r_ext1_0 rfl) ?_
    refine L_nil ?_
    refine W_seq ?_
    refine W_false rfl ?_
    refine W_exit ?_
    repeat (first | refine blk_hit ?_ | refine blk_miss rfl ?_)
    refine W_seq ?_
    have hsub := hIt.sub
    have hnod := hIt.nodup
    have hkn : ∀ k ∈ D.map (fun p => p.1), 0 ≤ k := fun k hk => by obtain ⟨p, hp, rfl⟩ := List.mem_map.1 hk; obtain ⟨q, hq, rfl⟩ := List.mem_map.1 (hsub p hp); have := (hG.rng q hq).1; show 0 ≤ q.1; omega
    have hDt : Dt w0.heap.size w2 v4 ((D.map fun p => p.1).map Int.toNat) := by have h := hO4; rw [kcl_nat hkn] at h; show Ow _ _ _ _ _ ((D.map _).map _).length _; rw [List.length_map, List.length_map]; exact h
    have hXl : ((D.map fun p => p.1).map Int.toNat).length = D.length := by simp
    clear hq4
    refine W_region ?_
    refine L_r (r_mv) ?_
    refine L_call (.plain rfl) rfl rfl (r_call Try.func37 rfl rfl rfl (by rfl)) (sort_walk w0.heap.size v4 _ _ hDt (by omega)) ?_
    rintro v22 w4 ⟨rfl, ⟨Y, hDY, hRY, hSY⟩, c4⟩
    have hz4 := c4.size
    have hYe : Y = (C.op.map (fun p => p.1)).map Int.toNat := keys_sorted (g := g) hG.toAsc hsub hall13 hnod (by have h := hRY.perm; rwa [List.map_map] at h) (by rw [hRY.length]; exact hSY)
    have hkn2 : ∀ k ∈ C.op.map (fun p => p.1), 0 ≤ k := fun k hk => by obtain ⟨q, hq, rfl⟩ := List.mem_map.1 hk; have := (hG.rng q hq).1; omega
    have hO5 : Ow w4 w0.heap.size 26 1 v4 C.op.length (kcl (C.op.map (fun p => p.1))) := by rw [kcl_nat hkn2, ← hYe]; have h := hDY; have e : Y.length = C.op.length := by { rw [hYe]; simp }; unfold Dt at h; rw [e] at h; exact h
    clear hO4 hDt hDY
    obtain ⟨ks, hks⟩ : ∃ x, x = C.op.map (fun p => p.1) := ⟨_, rfl⟩
    have hkl : ks.length = C.op.length := by rw [hks, List.length_map]
    rw [← hks] at hO5
    refine L_nil ?_
    refine W_seq ?_
    refine W_region ?_
    refine L_r (r_mv) ?_
    refine L_r (r_lenSl Try.underlying80 (by conv => lhs; whnf) Sl.au) ?_
    refine L_r (r_mi rfl) ?_
    refine L_nil ?_
    refine W_block ?_
    refine W_loopF [0, 1, 23, 24] (fun mz_ f W => ∃ (i : Nat) (F1 : Nat → Prop) (vo1 vr1 : Value), f 25 = .int .i64 i ∧ (i ≤ C.op.length ∧ Ow W w0.heap.size 26 1 v4 C.op.length (kcl ks) ∧ CalAt base F1 W b bm vo1 vr1 g ((ks.take i).foldl tick1 C) ∧ Bk W bt #[.pointer (some ⟨b, 0, none⟩)] 22 ∧ (∀ j, F1 j → ext F w0 W j) ∧ (∀ j, v4.ownBlock = some j → ¬ F1 j) ∧ ¬ F1 bt ∧ CalC base F w0 W ∧ w0.heap.size ≤ W.heap.size) ∧ mz_ = C.op.length - i) ?_ ?_
    · refine ⟨_, 0, F, vo, vr, rfl, ?_, rfl⟩
      exact ⟨by omega, Ow.au, hC.nw Ch.au, Bk.au, fun j hj => .inl hj, fun j hj hF => by have := (hC.fF j hF).2; have := ow_base hO5 hj; omega, hnF, Ch.au, by omega⟩
    rintro m1 g1 w5 ⟨i, F1, vo1, vr1, hf25, hR1, rfl⟩
    refine W_as 25 hf25 rfl ?_
    clear hf25
    obtain ⟨hi, hO6, hC6, hbt6, hF1, hF4, hFt, hc6, hz6⟩ := hR1
    clear hO5
    have hbk6 := hC6.bk
    have hmp6 := hC6.mp
    have hG6 : ((ks.take i).foldl tick1 C).Good := hG.ticks _
    have htl := ticks_len C (ks.take i)
    rw [List.length_take] at htl
    refine W_seq ?_
    refine W_region ?_
    refine L_r (r_lss rfl rfl) ?_
    refine L_nil ?_
    refine W_seq ?_
    refine W_if rfl (fun h26 => ?_) (fun h26 => ?_)
    · obtain ⟨o, ho⟩ := tick_at hG.toAsc hks (i := i) (by omega)
      have hli : i < ks.length := by omega
      have hlbt := hbt6.lt
      refine W_skip ?_
      refine W_seq ?_
      refine W_block ?_
      refine W_seq ?_
      refine W_region ?_
      refine L_r (r_ix Try.underlying80 (show _ = some 1 from rfl) (by conv => lhs; whnf) rfl Sl.au) ?_
      refine L_r (r_loadSl rfl rfl Sl.au (by exact kcl_get _ _ (by omega))) ?_
      refine L_r (r_ai rfl) ?_
      refine L_nil ?_
      refine W_region ?_
      refine L_r (r_mv) ?_
      refine L_r (r_mp rfl) ?_
      refine L_r (r_nilCheck rfl) ?_
      refine L_r (r_fieldb Try.underlying65 rfl (show _ = some 1 from rfl) rfl rfl (show _ = 4 from rfl)) ?_
      refine L_r (r_lb rfl rfl) ?_
      refine L_r (r_mi rfl) ?_
      refine L_r (r_lookup (ke := .int .u64) (ve := idv) _ (.pointer none) Try.underlying63 Try.underlying26 (fun _ => by first | trivial | rfl) (fun _ _ h => by cases h; rfl) rfl rfl rfl Mp.au) ?_
      rw [show (mget (pm g ((ks.take i).foldl tick1 C).op) ks[i]).getD (.pointer none) = .pointer (some ⟨g ks[i], 0, none⟩) by rw [mget_pm, ho]; rfl]
      refine L_call (.plain rfl) rfl rfl (r_call Try.func30 rfl rfl rfl (by rfl)) (tk_walk base F1 b bm (g ks[i]) bt vo1 vr1 g ((ks.take i).foldl tick1 C) ks[i] o _ (hC6.nw Ch.au) hG6 ho rfl Bk.au (by omega) (by omega) (by omega) (by omega)) ?_
      rintro v36 w6 ⟨vo2, vr2, rfl, hC7, c6⟩
      have hz6 := c6.size
      have hO7 := hO6.to fun j hj => Sm.step c6 (fun _ e => hF4 j hj e.2) (Sm.refl _ _)
      have hbt7 := hbt6.ch c6 (fun e => hFt e.2)
      have hc7 := calc_ext hc6 c6 hF1
      obtain ⟨F2, hF2⟩ : ∃ X : Nat → Prop, X = ext F1 w5 w6 := ⟨_, rfl⟩
      refine L_nil ?_
      refine W_region ?_
      refine L_r (r_add rfl rfl (by first | exact wr_i64 (by omega) | rfl)) ?_
      refine L_r (r_mi rfl) ?_
      refine L_nil ?_
      refine ⟨⟨rfl, rfl, rfl, rfl, trivial⟩, _, ?_, i + 1, F2, vo2, vr2, rfl, ?_, rfl⟩
      · omega
      subst hF2
      refine ⟨by omega, hO7, by rw [tick_next (by omega)]; exact hC7, hbt7, ext_ext hF1 (by omega) (by omega), fun j hj hF => ?_, fun hF => ?_, hc7, by omega⟩
      · rcases hF with hF | hF
        · exact hF4 j hj hF
        · have := Ow.lt hO6 hj; omega
      · rcases hF with hF | hF
        · exact hFt hF
        · omega
    · refine W_exit ?_
      repeat (first | refine blk_hit ?_ | refine blk_miss rfl ?_)
      refine ret0 rfl  ?_
      have e : i = ks.length := by omega
      rw [e, List.take_length] at hC6
      refine ⟨vo1, vr1, rfl, ?_, Ch.au⟩
      unfold tick
      rw [← hks]
      exact hC6.wid hF1 (ext_ok hC.fF (by omega) hbs)
  · refine L_r (r_ext3_0 rfl) ?_
    refine L_nil ?_
    refine W_seq ?_
    refine W_true rfl ?_
    refine W_skip ?_
    refine W_block ?_
    refine W_seq ?_
    refine W_region ?_
    refine L_r (r_entry rfl Itm.au) ?_
    refine L_r (r_ext2_0 rfl) ?_
    refine L_r (r_ai rfl) ?_
    refine L_nil ?_
    refine W_region ?_
    refine L_r (r_mv) ?_
    refine L_r (r_mi rfl) ?_
    refine L_build1 [.int _ _] Try.underlying80 rfl rfl rfl (.plain rfl) rfl (by rfl) (by rfl) (by rfl) (fun b19 w7 hb19 hv19 eb7 hs7 c7 => ?_)
    refine L_apow Try.underlying80 u64_info rfl (by decide) (.plain rfl) rfl (by conv => lhs; whnf) (by conv => lhs; whnf) Ow.au Sl.au (by intro y hy; simp at hy; subst hy; rfl) (by unfold maxLen; omega) (by omega) (by omega) (fun v20 w8 ho20 c8 hob20 => ?_)
    have hz8 := c8.size
    clear hq4
    obtain ⟨q4, hq4⟩ : ∃ x, x = v20 := ⟨_, rfl⟩
    refine L_r (r_av) ?_
    refine L_nil ?_
    refine ⟨⟨rfl, rfl, rfl, trivial⟩, _, ?_, D ++ [p13], q4, (by exact hq4.symm), ?_, rfl⟩
    · (simp only [List.length_append, List.length_cons, List.length_nil]; omega)
    subst hq4
    refine ⟨Itm.au, ?_, Ch.au⟩
    rw [List.length_append, List.map_append, kcl_append]
    exact ho20
end Go.Proofs.Ytjjddbicggfgnaa

