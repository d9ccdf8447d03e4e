/- Parts of the proof (Scr23, Scr24, Scr25, RefS4, RefS5, RefS6, Scr26, Args). -/
import Derived.Test.YtgmeojpekdekeaaGreatDoorMSf
import Derived.ChangeShapes
import Derived.Deep.Slices
import Derived.Lib.ParseIntBTie
import Derived.SizedLaws
namespace Go.Proofs.YtgmeojpekdekeaaGreatDoor
open Go Go.RowKit
set_option linter.unusedVariables false
set_option linter.unusedSimpArgs false
set_option maxRecDepth 100000
/-! ### numbers that were read -/
theorem uintF_le (l : List UInt8) : uintF l ≤ 18446744073709551615 := by
  unfold uintF
  split
  ·
   rename_i v h
   have := Lib.parseUintB_le h
   omega
  · omega
  · omega
theorem intF_ran (l : List UInt8) : -9223372036854775808 ≤ intF l ∧ intF l ≤ 9223372036854775807 := by
  unfold intF
  split
  ·
   rename_i v h
   have := Lib.parseIntB_bounds h
   omega
  ·
   unfold Lib.intSat
   split <;> omega
  · omega
theorem parA_ran (s : ByteArray) : -9223372036854775808 ≤ (parA s).n ∧ (parA s).n ≤ 9223372036854775807 := by
  have := intF_ran (bs s)
  unfold parA
  repeat' split
  all_goals first | exact this | (simp; done) | decide
theorem stp_ran {st : List ByteArray × Dd} (h : ranD st.2) (c : UInt8) : ranD (stp st c).2 := by
  unfold stp
  repeat' split
  all_goals first
    | exact h
    | exact ⟨uintF_le _, h.2⟩
    | (refine ⟨h.1, fun v hv => ?_⟩
       rcases List.mem_append.1 hv with hv | hv
       · exact h.2 v hv
       · obtain ⟨x, _, rfl⟩ := List.mem_map.1 hv
         exact parA_ran x)
theorem ranD_par (s : ByteArray) : ranD (parD s) := by
  have key : ∀ (l : List UInt8) (st : List ByteArray × Dd), ranD st.2 → ranD (l.foldl stp st).2 := by
    intro l
    induction l with
    | nil => intro st h; exact h
    | cons c l ih => intro st h; exact ih _ (stp_ran h c)
  exact key _ _ ⟨by show (0 : Nat) ≤ _; omega, fun v hv => by cases hv⟩
/-! ### the line's words -/
theorem mem_join {c b : UInt8} : ∀ (l : List (List UInt8)), c ∈ Lib.join l [b] → c = b ∨ ∃ x ∈ l, c ∈ x
  | [], h => by cases h
  | [x], h => by rw [Lib.join_one] at h; exact .inr ⟨x, List.mem_singleton.2 rfl, h⟩
  | x :: y :: l, h => by
    have e : Lib.join (x :: y :: l) [b] = x ++ [b] ++ Lib.join (y :: l) [b] := by simp [Lib.join, List.intercalate]
    rw [e] at h
    rcases List.mem_append.1 h with h | h
    ·
     rcases List.mem_append.1 h with h | h
     · exact .inr ⟨x, List.mem_cons_self, h⟩
     · exact .inl (List.mem_singleton.1 h)
    ·
     rcases mem_join (y :: l) h with h | ⟨z, hz, h⟩
     · exact .inl h
     · exact .inr ⟨z, List.mem_cons_of_mem _ hz, h⟩
theorem words_wb {d : Dd} (h : chkD d) : ∀ x ∈ bs d.kind :: parB d, ∀ c ∈ x, wb c := by
  intro x hx
  rcases List.mem_cons.1 hx with rfl | hx
  ·
   obtain ⟨e, he, hk⟩ := kinds h.kind
   rw [hk]
   have key : ∀ e ∈ entT, ∀ c ∈ bs e.1, c.toNat ≠ 32 ∧ c.toNat ≠ 10 := by decide
   exact key e he
  ·
   obtain ⟨c, hc, hx⟩ := List.mem_flatMap.1 hx
   exact letB_wb h hc x hx
theorem bodB_no {d : Dd} (h : chkD d) : ∀ c ∈ bodB d, c ≠ 10 := by
  intro c hc e
  subst e
  rcases mem_join _ hc with k | ⟨x, hx, k⟩
  · exact absurd k (by decide)
  · exact (words_wb h x hx _ k).2 rfl
theorem splW_bod {d : Dd} (h : chkD d) : splW (sb (bodB d)) = d.kind :: (parB d).map sb := by
  unfold splW bodB
  rw [bs_sb, split_join _ _ (fun y hy b hb e => (words_wb h y hy b hb).1 (by rw [e]; rfl)), List.map_cons, sb_bs]
theorem map_par {d : Dd} (h : chkD d) (hr : ranD d) : (d.args.map fun v => sb (valB v)).map parA = d.args := by
  rw [List.map_map]
  exact (List.map_congr_left fun v hv => par_a (h.args v hv) (hr.2 v hv)).trans (List.map_id _)
end Go.Proofs.YtgmeojpekdekeaaGreatDoor

namespace Go.Proofs.YtgmeojpekdekeaaGreatDoor
open Go Go.RowKit
set_option linter.unusedVariables false
set_option linter.unusedSimpArgs false
set_option maxRecDepth 100000
def lastA : List UInt8 → Bool
  | [] => true
  | c :: cs => (if c = 97 then cs.isEmpty else true) && lastA cs
theorem entT_last : ∀ e ∈ entT, lastA (bs e.2) = true := by decide
theorem hasF_last (k : ByteArray) : lastA (bs (hasF k)) = true := by
  unfold hasF hasO
  cases hf : entT.find? fun e => decide (e.1 = k) with
  | none => rfl
  | some e => exact entT_last e (List.mem_of_find?_eq_some hf)
theorem hasF_on (k : ByteArray) : ∀ c ∈ bs (hasF k), c.toNat ∈ onlyLs := by
  unfold hasF hasO
  cases hf : entT.find? fun e => decide (e.1 = k) with
  | none => intro c hc; cases hc
  | some e => exact entT_ls e (List.mem_of_find?_eq_some hf)
theorem stp_put {d : Dd} (h : chkD d) (hr : ranD d) (Y : DD) (c : UInt8) (rest : List ByteArray) (hc : c.toNat ∈ onlyLs) (h97 : c = 97 → rest = [] ∧ Y.d.args = []) :
    stp ((letB d c).map sb ++ rest, Y.d) c = (rest, (sputL ⟨d, .slice none 0 0⟩ Y c.toNat).d) := by
  unfold onlyLs at hc
  simp only [List.mem_cons, List.not_mem_nil, or_false] at hc
  rcases hc with e | e | e | e | e | e | e | e | e
  ·
   rw [letS d (by omega), stpS _ _ (by omega), e]
   show (rest, _) = _
   rw [show (nxW ([sb (Lib.itoa d.side)] ++ rest)) = sb (Lib.itoa d.side) from rfl, bs_sb, atoi_f (side_ran h)]; rfl
  ·
   rw [letO d (by omega), stpO _ _ (by omega), e]
   show (rest, _) = _
   rw [show (nxW ([sb (Lib.decDigits d.obj)] ++ rest)) = sb (Lib.decDigits d.obj) from rfl, bs_sb, uint_f hr.1]; rfl
  · rw [letM d (by omega), stpM _ _ (by omega), e]; rfl
  ·
   have h1 := h97 ((ofn_ne c 97 (by omega)).1 e)
   obtain ⟨rfl, ha⟩ := h1
   have hl := h.len
   rw [letA d (by omega), stpA _ _ (by omega), e, ha, List.append_nil]
   have hm : (d.args.map fun v => sb (valB v)).length ≤ 9 - ([] : List Va).length := by rw [List.length_map]; simp; omega
   rw [List.take_of_length_le hm, List.drop_eq_nil_of_le hm, map_par h hr]; rfl
  ·
   rw [letN d (by omega), stpN _ _ (by omega), e]
   show (rest, _) = _
   rw [show (nxW ([sb (Lib.itoa d.n)] ++ rest)) = sb (Lib.itoa d.n) from rfl, bs_sb, atoi_f (numP_ran h.n)]; rfl
  ·
   rw [letT d (by omega), stpT _ _ (by omega), e]
   show (rest, _) = _
   rw [show (nxW ([sb (Lib.itoa d.at')] ++ rest)) = sb (Lib.itoa d.at') from rfl, bs_sb, atoi_f (numP_ran h.at')]; rfl
  ·
   rw [letR d (by omega), stpR _ _ (by omega), e]
   show (rest, _) = _
   rw [show (nxW ([sb (Lib.itoa d.ref)] ++ rest)) = sb (Lib.itoa d.ref) from rfl, bs_sb, atoi_f (numP_ran h.ref)]; rfl
  · rw [letC d (by omega), stpC _ _ (by omega), e]; rfl
  ·
   rw [letX d (by omega), stpB _ _ (by omega), e]
   show (rest, _) = _
   rw [show (nxW ([sb (hexB d.bytes)] ++ rest)) = sb (hexB d.bytes) from rfl, unh_f]; rfl
theorem sput_args {x Y : DD} {c : UInt8} (h : c ≠ 97) (hc : c.toNat ∈ onlyLs) : (sputL x Y c.toNat).d.args = Y.d.args := by
  have h97 : c.toNat ≠ 97 := fun e => h ((ofn_ne c 97 (by omega)).1 e)
  unfold sputL
  repeat' split
  all_goals first | rfl | omega
theorem stp_all {d : Dd} (h : chkD d) (hr : ranD d) : ∀ (cs : List UInt8) (Y : DD), (∀ c ∈ cs, c.toNat ∈ onlyLs) → lastA cs = true → (97 ∈ cs → Y.d.args = []) →
    (cs.foldl stp ((cs.flatMap fun c => (letB d c).map sb), Y.d)) = ([], (cs.foldl (fun y c => sputL ⟨d, .slice none 0 0⟩ y c.toNat) Y).d)
  | [], Y, _, _, _ => rfl
  | c :: cs, Y, hon, hl, hY => by
    unfold lastA at hl
    rw [Bool.and_eq_true] at hl
    have hc := hon c List.mem_cons_self
    rw [List.foldl_cons, List.foldl_cons, List.flatMap_cons, stp_put h hr Y c _ hc (fun e => by
      rw [if_pos e] at hl
      have : cs = [] := List.isEmpty_iff.1 hl.1
      subst this
      exact ⟨rfl, hY (by rw [e]; exact List.mem_cons_self)⟩)]
    refine stp_all h hr cs _ (fun c' h' => hon c' (List.mem_cons_of_mem _ h')) hl.2 fun h9 => ?_
    by_cases e : c = 97
    ·
     rw [if_pos e] at hl
     have : cs = [] := List.isEmpty_iff.1 hl.1
     rw [this] at h9; cases h9
    · rw [sput_args e hc]; exact hY (List.mem_cons_of_mem _ h9)
/-- What was written is read. -/
theorem par_bod {d : Dd} (h : chkD d) (hr : ranD d) : parD (sb (bodB d)) = d := by
  have hq := (same_only ⟨d, .slice none 0 0⟩ d.kind).2 ((chk_iff ⟨d, .slice none 0 0⟩).2 h |>.1.2.1 |> (same_only ⟨d, .slice none 0 0⟩ d.kind).1)
  rw [parD_st (splW_bod h)]
  have e1 : (parB d).map sb = (bs (hasF d.kind)).flatMap fun c => (letB d c).map sb := by unfold parB; rw [List.map_flatMap]
  have e2 : (bs (hasF d.kind)).take (hasF d.kind).size = bs (hasF d.kind) := List.take_of_length_le (Nat.le_refl _)
  unfold stA
  rw [e1, e2]
  have h3 := stp_all h hr (bs (hasF d.kind)) (onlyZ d.kind) (hasF_on _) (hasF_last _) (fun _ => rfl)
  have h4 : (onlyZ d.kind).d = Dd.zero d.kind := rfl
  rw [h4] at h3
  rw [h3]
  unfold onlyA at hq
  rw [e2] at hq
  exact hq.symm
/-! ### a text, line by line -/
/-- The line ahead. -/
def one1 (t : List UInt8) : List UInt8 := (Lib.cut t [10]).1
def rst1 (t : List UInt8) : List UInt8 := (Lib.cut t [10]).2.1
/-- The text begins with the line of a deed. -/
def goodT (t : List UInt8) : Prop := chkD (parD (sb (one1 t))) ∧ linD (parD (sb (one1 t))) <+: t
theorem good_lin {d : Dd} (h : chkD d) (hr : ranD d) (t : List UInt8) : goodT (linD d ++ t) ∧ parD (sb (one1 (linD d ++ t))) = d ∧ rst1 (linD d ++ t) = t := by
  have e : linD d ++ t = bodB d ++ 10 :: t := by unfold linD; simp
  have hc := cut_at (t := t) (bodB_no h)
  rw [← e] at hc
  have e1 : one1 (linD d ++ t) = bodB d := by unfold one1; rw [hc]
  have e2 : rst1 (linD d ++ t) = t := by unfold rst1; rw [hc]
  refine ⟨?_, by rw [e1, par_bod h hr], e2⟩
  unfold goodT
  rw [e1, par_bod h hr]
  exact ⟨h, List.prefix_append _ _⟩
theorem good_cut {t : List UInt8} (h : goodT t) : t = linD (parD (sb (one1 t))) ++ rst1 t := by
  obtain ⟨h1, u, hu⟩ := h
  have h2 := (good_lin h1 (ranD_par _) u).2
  rw [hu] at h2
  rw [h2.2]
  exact hu.symm
theorem lin_ne (d : Dd) : linD d ≠ [] := by unfold linD; simp
end Go.Proofs.YtgmeojpekdekeaaGreatDoor

namespace Go.Proofs.YtgmeojpekdekeaaGreatDoor
open Go Go.RowKit Go.Shelf
set_option linter.unusedVariables false
set_option linter.unusedSimpArgs false
set_option maxRecDepth 100000
theorem dd_info : (Tryz.prog.info? 29).map (fun i => (i.zero, i.size, i.bytes)) = some (some (.agg #[.string ByteArray.empty, .int .i64 0, .int .u64 0, .string ByteArray.empty, .slice none 0 0, .int .i64 0, .int .i64 0, .int .i64 0, .string ByteArray.empty, .string ByteArray.empty]), 10, 128) := rfl
/-- The deeds' arguments, in rows of their own. -/
def LsAt (W : World) (base : Nat) (l : List DD) : Prop := ∀ x ∈ l, Ow W base 43 4 x.va x.d.args.length (cellsVa x.d.args)
theorem LsAt.nw {W W' : World} {base : Nat} {l : List DD} (h : LsAt W base l) (c : Nw W W') : LsAt W' base l := fun x hx => (h x hx).nw c
theorem LsAt.own {W W' : World} {base b e sz n : Nat} {l : List DD} {v : Value} {xs : List Value} (h : LsAt W base l) (ho : Ow W b e sz v n xs) (he : e ≠ 43) (c : Ch (fun j => v.ownBlock = some j) W W') : LsAt W' base l := fun x hx =>
  (h x hx).to fun i hi => ⟨c.size, fun hl => c.blk i hl fun q => by
    obtain ⟨c1, k1⟩ := (h x hx).bk hi
    obtain ⟨c2, k2⟩ := ho.bk q
    exact Bk.ne k2 k1 he rfl⟩
theorem LsAt.app {W : World} {base : Nat} {l k : List DD} (h : LsAt W base l) (h2 : LsAt W base k) : LsAt W base (l ++ k) := fun x hx => (List.mem_append.1 hx).elim (h x) (h2 x)
theorem LsAt.mono {W : World} {base b : Nat} {l : List DD} (h : LsAt W base l) (hb : b ≤ base) : LsAt W b l := fun x hx => (h x hx).mono hb
theorem shwB_app (l k : List DD) : shwB (l ++ k) = shwB l ++ shwB k := by unfold shwB; rw [List.flatMap_append]
theorem shwB_ge : ∀ l : List DD, l.length ≤ (shwB l).length
  | [] => Nat.le_refl _
  | x :: l => by
    have h1 := shwB_ge l
    have h2 : 1 ≤ (linD x.d).length := by unfold linD; rw [List.length_append, List.length_singleton]; omega
    unfold shwB at h1 ⊢
    rw [List.flatMap_cons, List.length_append, List.length_cons]; omega
theorem one_le (t : List UInt8) : (one1 t).length ≤ t.length := by
  unfold one1
  rcases cut_cases 10 t with ⟨p, u, h1, _, h2⟩ | ⟨_, h2⟩
  ·
   rw [h2]
   show p.length ≤ _
   rw [h1, List.length_append]; omega
  · rw [h2]; exact Nat.le_refl _
/-- All these have texts. -/
def allC (l : List DD) : Prop := ∀ x ∈ l, chkD x.d ∧ ranD x.d
theorem allC_nil : allC [] := fun x hx => nomatch hx
theorem LsAt.nil (W : World) (base : Nat) : LsAt W base [] := fun x hx => nomatch hx
theorem good_lt {t : ByteArray} (h : goodT (bs t)) : (sb (rst1 (bs t))).size < t.size := by
  have e := congrArg List.length (good_cut h)
  have := List.length_pos_iff.2 (lin_ne (parD (sb (one1 (bs t)))))
  rw [List.length_append, bs_length] at e
  rw [sb_size]; omega
set_option maxHeartbeats 4000000 in
theorem sread_walk (base : Nat) (s : ByteArray) (w0 : World) (hs : s.size ≤ 1000000) (hV : Sv base w0) (hb : base ≤ w0.heap.size) : Does Tryz.prog 14 #[.string s] w0 (fun r w' => ((∃ l v, r = .tuple #[v, .int .i64 0, .int .i64 0] ∧ bs s = shwB l ∧ allC l ∧ Ow w' w0.heap.size 29 10 v l.length (cellsDD l) ∧ LsAt w' w0.heap.size l) ∨ (∃ l t, r = .tuple #[.slice none 0 0, .int .i64 ((l.length + 1 : Nat) : Int), .int .i64 200] ∧ bs s = shwB l ++ t ∧ allC l ∧ t ≠ [] ∧ ¬ goodT t)) ∧ Nw w0 w') := by
  have hbs := bs_length s
  refine fn_of (n := 40) (args := [.string s]) Tryz.func14 rfl rfl rfl (W_seq (W_region (L_r (r_av) (L_r (r_ai rfl) (L_r (r_ai rfl) (L_nil (W_seq (W_region ?_))))))))
  refine L_r (r_av) (L_nil (W_seq (W_seq (W_region (L_r (r_ai rfl) (L_nil (W_block ?_)))))))
  refine W_loopF [] (fun mz_ f W => ∃ (l : List DD) (v : Value) (t : ByteArray), f 6 = .int .i64 ((l.length + 1 : Nat) : Int) ∧ f 5 = v ∧ f 0 = .string t ∧ (bs s = shwB l ++ bs t ∧ allC l ∧ Ow W w0.heap.size 29 10 v l.length (cellsDD l) ∧ LsAt W w0.heap.size l ∧ Nw w0 W) ∧ mz_ = t.size) ?_ ?_
  ·
   refine ⟨_, [], .slice none 0 0, s, rfl, rfl, rfl, ?_, rfl⟩
   exact ⟨rfl, allC_nil, Ow.nil _ _ _ _, LsAt.nil _ _, Ch.au⟩
  rintro m0 g0 w1 ⟨l, v, t, hf6, hf5, hf0, hR0, rfl⟩
  refine W_as 6 hf6 rfl ?_
  refine W_as 5 hf5 rfl ?_
  refine W_as 0 hf0 rfl ?_
  clear hf6 hf5 hf0
  obtain ⟨hst, hal, hOw, hls, hnw⟩ := hR0
  have hz := hnw.size
  have hll := congrArg List.length hst
  rw [List.length_append, bs_length t, hbs] at hll
  have hge := shwB_ge l
  refine W_seq (W_seq (W_region (L_r (r_ms rfl) (L_r (r_neqs rfl rfl) (L_nil ?_)))))
  refine W_if rfl (fun h12 => ?_) (fun h12 => ?_)
  ·
   refine W_skip (W_seq (W_block (W_seq (W_region (L_r (r_ms rfl) ?_)))))
   refine L_call (.plain rfl) rfl rfl (r_call Tryz.func36 rfl rfl rfl (by rfl)) (cut1_walk t 10 _ (by omega)) ?_
   rintro v17 w2 ⟨rfl, c2⟩
   have hz2 := c2.size
   refine L_r (r_mv) (L_r (r_ext3_0 rfl) (L_r (r_ext3_1 rfl) (L_r (r_ext3_2 rfl) (L_r (r_as rfl) (L_r (r_as rfl) (L_r (r_ab rfl) (L_nil (W_seq ?_))))))))
   refine W_region (L_r (r_ms rfl) ?_)
   refine L_call (.plain rfl) rfl rfl (r_call Tryz.func37 rfl rfl rfl (by rfl)) (deed_walk base (sb (one1 (bs t))) _ (by rw [sb_size]; have := one_le (bs t); have := bs_length t; omega) (hV.nw Ch.au hb) (by omega)) ?_
   rintro v22 w3 ⟨x, rfl, hxd, hx9, hxo, c3⟩
   have hz3 := c3.size
   have hone := ow_one hxo
   refine L_new (.plain rfl) rfl rfl (r_alloca rfl) (fun w4 b10 hb10 eb4 hs4 c4 => ?_)
   refine L_storerow (.plain rfl) rfl rfl Bk.au (by first | rfl | (simp; done) | assumption) (by first | rfl | assumption) (by exact row_one x hone) (fun w5 hb5 hs5 c5 => (L_nil (W_seq (W_seq (W_region ?_)))))
   refine L_r (r_loadrow Tryz.underlying29 rfl rfl Bk.au (by first | rfl | assumption)) ?_
   refine L_call (.plain rfl) rfl rfl (r_call Tryz.func10 rfl rfl rfl (by rfl)) (scheck_walk base x _ (hV.nw Ch.au hb) (by omega) (show x.ok _ from Sl.au) (by omega)) ?_
   rintro v24 w6 ⟨bc, rfl, hbc, c6⟩
   have hz6 := c6.size
   rw [chk_iff] at hbc
   refine L_r (r_not rfl) (L_r (r_mb rfl) ?_)
   refine L_caseb (d := 26) rfl (fun h26 => ?_) (fun h26 => ?_)
   ·
    refine L_ps (L_ps (L_ps (L_ps (L_ps (L_r (r_pt rfl rfl) (L_nil ?_))))))
    refine W_true rfl (W_seq (W_region (L_r (r_mi rfl) (L_r (r_av) (L_r (r_ai rfl) (L_r (r_ai rfl) (L_nil (W_ret ?_))))))))
    refine ret3 (v := .int _ _) (x := .int _ _) rfl (by conv => lhs; whnf) rfl rfl ?_
    first
    | (refine ⟨.inl ⟨l, v, rfl, ?_, hal, Ow.au, hls.nw Ch.au⟩, Ch.au⟩
       rw [hst, show t = { data := #[] } from Classical.not_not.1 h12]
       exact List.append_nil _)
    | (refine ⟨.inr ⟨l, bs t, rfl, hst, hal, fun e => h12 ?_, fun hg => ?_⟩, Ch.au⟩
       · rw [← sb_bs t, e]; rfl
       · first
         | exact absurd (hbc.2 (hxd ▸ hg.1)) (by simpa using h26)
         | (have k := hg.2
            rw [← hxd] at k
            have k2 : Lib.hasPrefix (bs t) (bs (sb (linD x.d))) = true := by rw [bs_sb]; exact List.isPrefixOf_iff_prefix.2 k
            simp [k2] at h32))
   ·
    have hck : chkD x.d := hbc.1 (by simpa using h26)
    have hxr : ranD x.d := by rw [hxd]; exact ranD_par _
    refine L_g (r_ms rfl) ?_
    refine L_g (r_loadrow Tryz.underlying29 rfl rfl Bk.au (by first | rfl | assumption)) ?_
    refine L_call (.yes 3 false rfl rfl) rfl rfl (r_call Tryz.func34 rfl rfl rfl (by rfl)) (line_walk base x _ (hV.nw Ch.au hb) (by omega) (show x.ok _ from Sl.au) hck hxr) ?_
    rintro v29 w7 ⟨rfl, c7⟩
    have hz7 := c7.size
    refine L_call (.yes 3 false rfl rfl) rfl rfl (r_call Tryz.func38 rfl rfl rfl (by rfl)) (shp_use t (sb (linD x.d)) _) ?_
    rintro v30 w8 ⟨rfl, rfl⟩
    refine L_g (r_not rfl) (L_r (r_pf rfl rfl) (L_nil ?_))
    refine W_bool rfl (fun h32 => ?_) (fun h32 => ?_)
    ·
     refine W_seq (W_region (L_r (r_mi rfl) (L_r (r_av) (L_r (r_ai rfl) (L_r (r_ai rfl) (L_nil (W_ret ?_)))))))
     refine ret3 (v := .int _ _) (x := .int _ _) rfl (by conv => lhs; whnf) rfl rfl ?_
     first
     | (refine ⟨.inl ⟨l, v, rfl, ?_, hal, Ow.au, hls.nw Ch.au⟩, Ch.au⟩
        rw [hst, show t = { data := #[] } from Classical.not_not.1 h12]
        exact List.append_nil _)
     | (refine ⟨.inr ⟨l, bs t, rfl, hst, hal, fun e => h12 ?_, fun hg => ?_⟩, Ch.au⟩
        · rw [← sb_bs t, e]; rfl
        · first
          | exact absurd (hbc.2 (hxd ▸ hg.1)) (by simpa using h26)
          | (have k := hg.2
             rw [← hxd] at k
             have k2 : Lib.hasPrefix (bs t) (bs (sb (linD x.d))) = true := by rw [bs_sb]; exact List.isPrefixOf_iff_prefix.2 k
             simp [k2] at h32))
    ·
     refine W_skip ?_
     have hgo : goodT (bs t) := by
       refine ⟨hxd ▸ hck, ?_⟩
       rw [← hxd]
       have k : Lib.hasPrefix (bs t) (bs (sb (linD x.d))) = true := by simpa using h32
       rw [bs_sb] at k
       exact List.isPrefixOf_iff_prefix.1 k
     refine W_region (L_r (r_mv) ?_)
     refine L_r (r_loadrow Tryz.underlying29 rfl rfl Bk.au (by first | rfl | assumption)) ?_
     refine L_buildrow [[_, _, _, _, _, _, _, _, _, _]] Tryz.underlying22 (show _ = some (some _, 10, _) from rfl) rfl rfl (.plain rfl) rfl (by rfl) (by rfl) rfl (fun b36 w9 hb36 hv36 eb9 hs9 c9 => ?_)
     simp only [List.flatten_cons, List.flatten_nil, List.append_nil, List.cons_append, List.nil_append] at hb36 hv36
     refine L_apow Tryz.underlying22 dd_info rfl (by decide) (.plain rfl) rfl (by conv => lhs; whnf) (by conv => lhs; whnf) Ow.au Sl.au (by intro y hy; simp at hy; rcases hy with rfl | rfl | rfl | rfl | rfl | rfl | rfl | rfl | rfl | rfl <;> first | rfl | exact hone) (by unfold maxLen; omega) (by omega) (by omega) (fun v37 w10 ho37 c10 hob37 => ?_)
     have hz10 := c10.size
     have hA10 : LsAt w9 w0.heap.size (l ++ [x]) := LsAt.app (hls.nw Ch.au) (fun y hy => by rw [List.mem_singleton.1 hy]; exact Ow.mono Ow.au (by omega))
     have hB10 : LsAt w10 w0.heap.size (l ++ [x]) := hA10.own (show Ow w9 w0.heap.size 29 10 v l.length (cellsDD l) from Ow.au) (by decide) c10
     refine L_r (r_ms rfl) (L_r (r_av) (L_r (r_as rfl) (L_nil (W_region (L_r (r_mi rfl) ?_)))))
     refine L_r (r_add rfl rfl (by first | exact wr_i64 (by omega) | rfl)) (L_r (r_ai rfl) (L_nil ?_))
     refine ⟨trivial, _, ?_, l ++ [x], v37, sb (rst1 (bs t)), (by refine congrArg (fun k : Nat => Value.int .i64 (k : Int)) (?_ : l.length + 1 + 1 = _); rw [List.length_append]; rfl), rfl, rfl, ?_, rfl⟩
     · exact good_lt hgo
     refine ⟨?_, fun y hy => ?_, ?_, ?_, Ch.au⟩
     ·
      rw [hst, shwB_app, bs_sb, List.append_assoc]
      congr 1
      conv => lhs; rw [good_cut hgo]
      rw [← hxd]
      simp [shwB]
     ·
      rcases List.mem_append.1 hy with hy | hy
      · exact hal y hy
      · rw [List.mem_singleton.1 hy]; exact ⟨hck, by rw [hxd]; exact ranD_par _⟩
     ·
      rw [List.length_append, List.length_singleton, cellsDD_append]
      (exact Ow.au)
     · assumption
  ·
   refine W_exit ?_
   repeat (first | refine blk_hit ?_ | refine blk_miss rfl ?_)
   refine W_seq (W_region (L_r (r_mv) (L_r (r_av) (L_r (r_ai rfl) (L_r (r_ai rfl) (L_nil (W_ret ?_)))))))
   refine ret3 (v := .int _ _) (x := .int _ _) rfl (by conv => lhs; whnf) rfl rfl ?_
   first
   | (refine ⟨.inl ⟨l, v, rfl, ?_, hal, Ow.au, hls.nw Ch.au⟩, Ch.au⟩
      rw [hst, show t = { data := #[] } from Classical.not_not.1 h12]
      exact List.append_nil _)
   | (refine ⟨.inr ⟨l, bs t, rfl, hst, hal, fun e => h12 ?_, fun hg => ?_⟩, Ch.au⟩
      · rw [← sb_bs t, e]; rfl
      · first
        | exact absurd (hbc.2 (hxd ▸ hg.1)) (by simpa using h26)
        | (have k := hg.2
           rw [← hxd] at k
           have k2 : Lib.hasPrefix (bs t) (bs (sb (linD x.d))) = true := by rw [bs_sb]; exact List.isPrefixOf_iff_prefix.2 k
           simp [k2] at h32))
end Go.Proofs.YtgmeojpekdekeaaGreatDoor

namespace Go.Proofs.YtgmeojpekdekeaaGreatDoor
open Go Go.RowKit
set_option linter.unusedVariables false
set_option linter.unusedSimpArgs false
set_option maxRecDepth 100000
theorem jt_app (l m : List (List UInt8)) : Lib.joinTail [32] (l ++ m) = Lib.joinTail [32] l ++ Lib.joinTail [32] m := by simp [Lib.joinTail]
def linT (d : Dd) (a : Nat) : List UInt8 := bs d.kind ++ Lib.joinTail [32] (((bs (hasF d.kind)).take a).flatMap (letB d))
theorem linT_succ (d : Dd) (a : Nat) (h : a < (hasF d.kind).size) : linT d (a + 1) = linT d a ++ Lib.joinTail [32] (letB d (bat (hasF d.kind) a)) := by
  have hl : a < (bs (hasF d.kind)).length := h
  unfold linT bat
  rw [List.take_succ_eq_append_getElem hl, List.flatMap_append, jt_app]
  simp [List.getD_eq_getElem?_getD, List.getElem?_eq_getElem hl]
theorem linT_all (d : Dd) : linT d (hasF d.kind).size = bodB d := by
  have e : (bs (hasF d.kind)).take (hasF d.kind).size = bs (hasF d.kind) := List.take_of_length_le (Nat.le_refl _)
  unfold linT
  rw [e, bodB_eq]
  rfl
theorem linT_one (d : Dd) (a : Nat) (h : a < (hasF d.kind).size) (w : ByteArray) (hw : (letB d (bat (hasF d.kind) a)).map sb = [w]) : sb (linT d a) ++ ({ data := #[32] } ++ w) = sb (linT d (a + 1)) := by
  obtain ⟨x, hx, rfl⟩ := List.map_eq_singleton_iff.1 hw
  rw [linT_succ d a h, hx, sb_append]
  congr 1
  show _ = sb (Lib.joinTail [32] [x])
  have e : Lib.joinTail [32] [x] = [32] ++ x := by simp [Lib.joinTail]
  rw [e, sb_append]
  rfl
theorem linT_arg (t : List UInt8) (l : List Va) (j : Nat) (h : j < l.length) : sb (t ++ Lib.joinTail [32] ((l.take j).map valB)) ++ ({ data := #[32] } ++ sb (valB l[j])) = sb (t ++ Lib.joinTail [32] ((l.take (j + 1)).map valB)) := by
  rw [List.take_succ_eq_append_getElem h, List.map_append, jt_app, ← List.append_assoc, sb_append (t ++ _)]
  congr 1
  have e : Lib.joinTail [32] [valB l[j]] = [32] ++ valB l[j] := by simp [Lib.joinTail]
  show _ = sb (Lib.joinTail [32] [valB l[j]])
  rw [e, sb_append]
  rfl
theorem jt_len {l : List (List UInt8)} (n : Nat) (hn : l.length ≤ n) (h : ∀ x ∈ l, x.length ≤ 300) : (Lib.joinTail [32] l).length ≤ n * 301 := by
  have h1 := lens_le l h
  have h2 := Nat.mul_le_mul_right 301 hn
  rw [Lib.joinTail_length]
  simp only [List.length_singleton]
  omega
theorem linT_len {d : Dd} (h : chkD d) (hr : ranD d) (a : Nat) : (linT d a).length ≤ 10000 := by
  have h1 := kind_7 h
  have h2 := flat_len (f := letB d) (m := 8) ((bs (hasF d.kind)).take a) fun c _ => letB_len h hr c
  have h3 := hasF_4 d.kind
  rw [List.length_take] at h2
  have h4 := jt_len (l := ((bs (hasF d.kind)).take a).flatMap (letB d)) 32 (by omega) (fun x hx => by
    obtain ⟨c, _, hc⟩ := List.mem_flatMap.1 hx
    exact letB_300 h hr c x hc)
  unfold linT
  rw [List.length_append, bs_length]
  omega
theorem letA_j (d : Dd) {c : UInt8} (h : (c.toNat : Int) = 97) : letB d c = d.args.map valB := by rw [u8_of (n := 97) (by omega) h]; rfl
set_option maxHeartbeats 4000000 in
theorem rline_walk (x : DD) (w0 : World) (hx : x.ok w0) (hk : chkD x.d) (hr : ranD x.d) : Does Tryz.prog 35 #[x.v] w0 (fun r w' => r = .string (sb (linD x.d)) ∧ Nw w0 w') := by
  obtain ⟨s, hs⟩ : ∃ s, s = hasF x.d.kind := ⟨_, rfl⟩
  have hsl : Sl w0 x.va 4 x.d.args.length (cellsVa x.d.args) := hx
  have hs4 : s.size ≤ 4 := by rw [hs]; exact hasF_4 _
  have hal := hk.len
  have e10 : ({ data := #[10] } : ByteArray).size = 1 := rfl
  have e32 : ({ data := #[32] } : ByteArray).size = 1 := rfl
  have hlT := fun a => linT_len hk hr a
  have hsT := fun a => sb_size (linT x.d a)
  have a1 := itoa_len (side_ran hk)
  have a2 := digits_len x.d.obj hr.1
  have a3 := meth_size hk
  have a4 := itoa_len (numP_ran hk.n)
  have a5 := itoa_len (numP_ran hk.at')
  have a6 := itoa_len (numP_ran hk.ref)
  have a7 := cls_size hk
  have a8 := hexB_len x.d.bytes
  have a9 := byt_size hk
  have s1 := sb_size (Lib.itoa x.d.side)
  have s2 := sb_size (Lib.decDigits x.d.obj)
  have s4 := sb_size (Lib.itoa x.d.n)
  have s5 := sb_size (Lib.itoa x.d.at')
  have s6 := sb_size (Lib.itoa x.d.ref)
  have s8 := sb_size (hexB x.d.bytes)
  refine fn_of (n := 103) (args := [x.v]) Tryz.func35 rfl rfl rfl (W_seq (W_region ?_))
  refine L_new (.plain rfl) rfl rfl (r_boxa rfl) (fun w1 b1 hb1 eb1 hs1 c1 => (L_r (r_as rfl) (L_nil (W_seq (W_region ?_)))))
  refine L_r (r_fieldb Tryz.underlying29 rfl (show _ = some 1 from rfl) rfl rfl (show _ = 0 from rfl)) (L_r (r_lb rfl rfl) (L_r (r_as rfl) (L_nil (W_seq (W_region ?_)))))
  refine L_r (r_fieldb Tryz.underlying29 rfl (show _ = some 1 from rfl) rfl rfl (show _ = 0 from rfl)) (L_r (r_lb rfl rfl) ?_)
  refine L_call (.plain rfl) rfl rfl (r_call Tryz.func28 rfl rfl rfl (by rfl)) (rhas_walk x.d.kind _) ?_
  rintro v11 w2 ⟨rfl, c2⟩
  have hz2 := c2.size
  rw [← hs]
  refine L_r (r_as rfl) (L_nil (W_seq (W_seq (W_region (L_r (r_ai rfl) (L_nil (W_block ?_)))))))
  refine W_loopF [1, 4] (fun mz_ f W => ∃ (a : Nat), f 5 = .int .i64 a ∧ f 3 = .string (sb (linT x.d a)) ∧ (a ≤ s.size ∧ Bk W b1 x.row 29 ∧ Nw w0 W) ∧ mz_ = s.size - a) ?_ ?_
  ·
   refine ⟨_, 0, rfl, (by refine congrArg Value.string ?_; unfold linT; rw [List.take_zero]; show _ = sb (bs x.d.kind ++ []); rw [List.append_nil, sb_bs]), ?_, rfl⟩
   exact ⟨by omega, Bk.au, Ch.au⟩
  rintro m0 g0 w3 ⟨a, hf5, hf3, hR0, rfl⟩
  refine W_as 5 hf5 rfl ?_
  refine W_as 3 hf3 rfl ?_
  clear hf5 hf3
  obtain ⟨ha, hk1, hnw⟩ := hR0
  have hz := hnw.size
  have hlk := hlT a
  have hlk2 := hsT a
  refine W_seq (W_seq (W_region (L_r (r_mi rfl) (L_r (r_ms rfl) ?_))))
  refine L_r (r_lens Tryz.underlying9 rfl) (L_r (r_lss rfl rfl) (L_nil ?_))
  refine W_if rfl (fun h15 => ?_) (fun h15 => ?_)
  ·
   refine W_skip (W_seq (W_block (W_seq (W_region (L_r (r_ms rfl) (L_r (r_mi rfl) ?_))))))
   refine L_r (r_indexs Tryz.underlying9 rfl rfl (by omega) (by omega) (by conv => lhs; (try simp only [Nat.mul_one, Nat.zero_add, Int.toNat_natCast, Int.toNat_zero, Int.reduceToNat, Nat.reduceMul, Nat.reduceAdd]))) (L_nil (W_block (W_seq (W_region ?_))))
   have hls : (bat s a).toNat ∈ onlyLs := by rw [hs]; exact hasF_ls x.d.kind a (by rw [← hs]; omega)
   refine L_r (r_eql rfl rfl) (L_r (r_ab rfl) (L_nil ?_))
   refine W_if rfl (fun h21 => ?_) (fun h21 => ?_)
   ·
    refine W_region (L_r (r_ms rfl) ?_)
    refine L_r (r_fieldb Tryz.underlying29 rfl (show _ = some 1 from rfl) rfl rfl (show _ = 1 from rfl)) (L_r (r_lb rfl rfl) ?_)
    refine L_call (.plain rfl) rfl rfl (r_call Tryz.func43 rfl rfl rfl (by rfl)) (rdigits_walk x.d.side _ (side_ran hk)) ?_
    rintro v26 w4 ⟨rfl, c4⟩
    have hz4 := c4.size
    refine L_r (r_adds rfl rfl (by first | omega | (simp only [ByteArray.size_append]; omega))) ?_
    refine L_r (r_adds rfl rfl (by first | omega | (simp only [ByteArray.size_append]; omega))) (L_r (r_as rfl) (L_nil (W_region (L_r (r_mi rfl) ?_))))
    refine L_r (r_add rfl rfl (by first | exact wr_i64 (by omega) | rfl)) (L_r (r_ai rfl) (L_nil ?_))
    refine ⟨⟨fx2, fx2, trivial⟩, _, ?_, a + 1, rfl, (by first | exact congrArg Value.string (linT_one x.d a (by rw [← hs]; omega) _ (by rw [← hs]; exact letS x.d (by assumption))) | exact congrArg Value.string (linT_one x.d a (by rw [← hs]; omega) _ (by rw [← hs]; exact letO x.d (by assumption))) | exact congrArg Value.string (linT_one x.d a (by rw [← hs]; omega) _ (by rw [← hs]; exact letM x.d (by assumption))) | exact congrArg Value.string (linT_one x.d a (by rw [← hs]; omega) _ (by rw [← hs]; exact letN x.d (by assumption))) | exact congrArg Value.string (linT_one x.d a (by rw [← hs]; omega) _ (by rw [← hs]; exact letT x.d (by assumption))) | exact congrArg Value.string (linT_one x.d a (by rw [← hs]; omega) _ (by rw [← hs]; exact letR x.d (by assumption))) | exact congrArg Value.string (linT_one x.d a (by rw [← hs]; omega) _ (by rw [← hs]; exact letC x.d (by assumption))) | exact congrArg Value.string (linT_one x.d a (by rw [← hs]; omega) _ (by rw [← hs]; exact letX x.d (by assumption))) | (refine congrArg Value.string ?_; rw [linT_succ x.d a (by rw [← hs]; omega), ← hs, letA_j x.d (by assumption), List.take_of_length_le (by omega)])), ?_, rfl⟩
    · omega
    exact ⟨by omega, Bk.au, Ch.au⟩
   ·
    refine W_seq (W_region (L_r (r_eql rfl rfl) (L_r (r_ab rfl) (L_nil ?_))))
    refine W_if rfl (fun h29 => ?_) (fun h29 => ?_)
    ·
     refine W_region (L_r (r_ms rfl) ?_)
     refine L_r (r_fieldb Tryz.underlying29 rfl (show _ = some 1 from rfl) rfl rfl (show _ = 2 from rfl)) (L_r (r_lb rfl rfl) ?_)
     refine L_call (.plain rfl) rfl rfl (r_call Tryz.func44 rfl rfl rfl (by rfl)) (rwhole_walk x.d.obj _ hr.1) ?_
     rintro v34 w5 ⟨rfl, c5⟩
     have hz5 := c5.size
     refine L_r (r_adds rfl rfl (by first | omega | (simp only [ByteArray.size_append]; omega))) ?_
     refine L_r (r_adds rfl rfl (by first | omega | (simp only [ByteArray.size_append]; omega))) (L_r (r_as rfl) (L_nil (W_region (L_r (r_mi rfl) ?_))))
     refine L_r (r_add rfl rfl (by first | exact wr_i64 (by omega) | rfl)) (L_r (r_ai rfl) (L_nil ?_))
     refine ⟨⟨fx2, fx2, trivial⟩, _, ?_, a + 1, rfl, (by first | exact congrArg Value.string (linT_one x.d a (by rw [← hs]; omega) _ (by rw [← hs]; exact letS x.d (by assumption))) | exact congrArg Value.string (linT_one x.d a (by rw [← hs]; omega) _ (by rw [← hs]; exact letO x.d (by assumption))) | exact congrArg Value.string (linT_one x.d a (by rw [← hs]; omega) _ (by rw [← hs]; exact letM x.d (by assumption))) | exact congrArg Value.string (linT_one x.d a (by rw [← hs]; omega) _ (by rw [← hs]; exact letN x.d (by assumption))) | exact congrArg Value.string (linT_one x.d a (by rw [← hs]; omega) _ (by rw [← hs]; exact letT x.d (by assumption))) | exact congrArg Value.string (linT_one x.d a (by rw [← hs]; omega) _ (by rw [← hs]; exact letR x.d (by assumption))) | exact congrArg Value.string (linT_one x.d a (by rw [← hs]; omega) _ (by rw [← hs]; exact letC x.d (by assumption))) | exact congrArg Value.string (linT_one x.d a (by rw [← hs]; omega) _ (by rw [← hs]; exact letX x.d (by assumption))) | (refine congrArg Value.string ?_; rw [linT_succ x.d a (by rw [← hs]; omega), ← hs, letA_j x.d (by assumption), List.take_of_length_le (by omega)])), ?_, rfl⟩
     · omega
     exact ⟨by omega, Bk.au, Ch.au⟩
    ·
     refine W_seq (W_region (L_r (r_eql rfl rfl) (L_r (r_ab rfl) (L_nil ?_))))
     refine W_if rfl (fun h37 => ?_) (fun h37 => ?_)
     ·
      refine W_region (L_r (r_ms rfl) ?_)
      refine L_r (r_fieldb Tryz.underlying29 rfl (show _ = some 1 from rfl) rfl rfl (show _ = 3 from rfl)) (L_r (r_lb rfl rfl) ?_)
      refine L_r (r_adds rfl rfl (by first | omega | (simp only [ByteArray.size_append]; omega))) ?_
      refine L_r (r_adds rfl rfl (by first | omega | (simp only [ByteArray.size_append]; omega))) (L_r (r_as rfl) (L_nil (W_region (L_r (r_mi rfl) ?_))))
      refine L_r (r_add rfl rfl (by first | exact wr_i64 (by omega) | rfl)) (L_r (r_ai rfl) (L_nil ?_))
      refine ⟨⟨fx2, fx2, trivial⟩, _, ?_, a + 1, rfl, (by first | exact congrArg Value.string (linT_one x.d a (by rw [← hs]; omega) _ (by rw [← hs]; exact letS x.d (by assumption))) | exact congrArg Value.string (linT_one x.d a (by rw [← hs]; omega) _ (by rw [← hs]; exact letO x.d (by assumption))) | exact congrArg Value.string (linT_one x.d a (by rw [← hs]; omega) _ (by rw [← hs]; exact letM x.d (by assumption))) | exact congrArg Value.string (linT_one x.d a (by rw [← hs]; omega) _ (by rw [← hs]; exact letN x.d (by assumption))) | exact congrArg Value.string (linT_one x.d a (by rw [← hs]; omega) _ (by rw [← hs]; exact letT x.d (by assumption))) | exact congrArg Value.string (linT_one x.d a (by rw [← hs]; omega) _ (by rw [← hs]; exact letR x.d (by assumption))) | exact congrArg Value.string (linT_one x.d a (by rw [← hs]; omega) _ (by rw [← hs]; exact letC x.d (by assumption))) | exact congrArg Value.string (linT_one x.d a (by rw [← hs]; omega) _ (by rw [← hs]; exact letX x.d (by assumption))) | (refine congrArg Value.string ?_; rw [linT_succ x.d a (by rw [← hs]; omega), ← hs, letA_j x.d (by assumption), List.take_of_length_le (by omega)])), ?_, rfl⟩
      · omega
      exact ⟨by omega, Bk.au, Ch.au⟩
     ·
      refine W_seq (W_region (L_r (r_eql rfl rfl) (L_r (r_ab rfl) (L_nil ?_))))
      refine W_if rfl (fun h44 => ?_) (fun h44 => ?_)
      ·
       refine W_region (L_r (r_ms rfl) ?_)
       refine L_r (r_fieldb Tryz.underlying29 rfl (show _ = some 1 from rfl) rfl rfl (show _ = 5 from rfl)) (L_r (r_lb rfl rfl) ?_)
       refine L_call (.plain rfl) rfl rfl (r_call Tryz.func43 rfl rfl rfl (by rfl)) (rdigits_walk x.d.n _ (numP_ran hk.n)) ?_
       rintro v49 w6 ⟨rfl, c6⟩
       have hz6 := c6.size
       refine L_r (r_adds rfl rfl (by first | omega | (simp only [ByteArray.size_append]; omega))) ?_
       refine L_r (r_adds rfl rfl (by first | omega | (simp only [ByteArray.size_append]; omega))) (L_r (r_as rfl) (L_nil (W_region (L_r (r_mi rfl) ?_))))
       refine L_r (r_add rfl rfl (by first | exact wr_i64 (by omega) | rfl)) (L_r (r_ai rfl) (L_nil ?_))
       refine ⟨⟨fx2, fx2, trivial⟩, _, ?_, a + 1, rfl, (by first | exact congrArg Value.string (linT_one x.d a (by rw [← hs]; omega) _ (by rw [← hs]; exact letS x.d (by assumption))) | exact congrArg Value.string (linT_one x.d a (by rw [← hs]; omega) _ (by rw [← hs]; exact letO x.d (by assumption))) | exact congrArg Value.string (linT_one x.d a (by rw [← hs]; omega) _ (by rw [← hs]; exact letM x.d (by assumption))) | exact congrArg Value.string (linT_one x.d a (by rw [← hs]; omega) _ (by rw [← hs]; exact letN x.d (by assumption))) | exact congrArg Value.string (linT_one x.d a (by rw [← hs]; omega) _ (by rw [← hs]; exact letT x.d (by assumption))) | exact congrArg Value.string (linT_one x.d a (by rw [← hs]; omega) _ (by rw [← hs]; exact letR x.d (by assumption))) | exact congrArg Value.string (linT_one x.d a (by rw [← hs]; omega) _ (by rw [← hs]; exact letC x.d (by assumption))) | exact congrArg Value.string (linT_one x.d a (by rw [← hs]; omega) _ (by rw [← hs]; exact letX x.d (by assumption))) | (refine congrArg Value.string ?_; rw [linT_succ x.d a (by rw [← hs]; omega), ← hs, letA_j x.d (by assumption), List.take_of_length_le (by omega)])), ?_, rfl⟩
       · omega
       exact ⟨by omega, Bk.au, Ch.au⟩
      ·
       refine W_seq (W_region (L_r (r_eql rfl rfl) (L_r (r_ab rfl) (L_nil ?_))))
       refine W_if rfl (fun h52 => ?_) (fun h52 => ?_)
       ·
        refine W_region (L_r (r_ms rfl) ?_)
        refine L_r (r_fieldb Tryz.underlying29 rfl (show _ = some 1 from rfl) rfl rfl (show _ = 6 from rfl)) (L_r (r_lb rfl rfl) ?_)
        refine L_call (.plain rfl) rfl rfl (r_call Tryz.func43 rfl rfl rfl (by rfl)) (rdigits_walk x.d.at' _ (numP_ran hk.at')) ?_
        rintro v57 w7 ⟨rfl, c7⟩
        have hz7 := c7.size
        refine L_r (r_adds rfl rfl (by first | omega | (simp only [ByteArray.size_append]; omega))) ?_
        refine L_r (r_adds rfl rfl (by first | omega | (simp only [ByteArray.size_append]; omega))) (L_r (r_as rfl) (L_nil (W_region (L_r (r_mi rfl) ?_))))
        refine L_r (r_add rfl rfl (by first | exact wr_i64 (by omega) | rfl)) (L_r (r_ai rfl) (L_nil ?_))
        refine ⟨⟨fx2, fx2, trivial⟩, _, ?_, a + 1, rfl, (by first | exact congrArg Value.string (linT_one x.d a (by rw [← hs]; omega) _ (by rw [← hs]; exact letS x.d (by assumption))) | exact congrArg Value.string (linT_one x.d a (by rw [← hs]; omega) _ (by rw [← hs]; exact letO x.d (by assumption))) | exact congrArg Value.string (linT_one x.d a (by rw [← hs]; omega) _ (by rw [← hs]; exact letM x.d (by assumption))) | exact congrArg Value.string (linT_one x.d a (by rw [← hs]; omega) _ (by rw [← hs]; exact letN x.d (by assumption))) | exact congrArg Value.string (linT_one x.d a (by rw [← hs]; omega) _ (by rw [← hs]; exact letT x.d (by assumption))) | exact congrArg Value.string (linT_one x.d a (by rw [← hs]; omega) _ (by rw [← hs]; exact letR x.d (by assumption))) | exact congrArg Value.string (linT_one x.d a (by rw [← hs]; omega) _ (by rw [← hs]; exact letC x.d (by assumption))) | exact congrArg Value.string (linT_one x.d a (by rw [← hs]; omega) _ (by rw [← hs]; exact letX x.d (by assumption))) | (refine congrArg Value.string ?_; rw [linT_succ x.d a (by rw [← hs]; omega), ← hs, letA_j x.d (by assumption), List.take_of_length_le (by omega)])), ?_, rfl⟩
        · omega
        exact ⟨by omega, Bk.au, Ch.au⟩
       ·
        refine W_seq (W_region (L_r (r_eql rfl rfl) (L_r (r_ab rfl) (L_nil ?_))))
        refine W_if rfl (fun h60 => ?_) (fun h60 => ?_)
        ·
         refine W_region (L_r (r_ms rfl) ?_)
         refine L_r (r_fieldb Tryz.underlying29 rfl (show _ = some 1 from rfl) rfl rfl (show _ = 7 from rfl)) (L_r (r_lb rfl rfl) ?_)
         refine L_call (.plain rfl) rfl rfl (r_call Tryz.func43 rfl rfl rfl (by rfl)) (rdigits_walk x.d.ref _ (numP_ran hk.ref)) ?_
         rintro v65 w8 ⟨rfl, c8⟩
         have hz8 := c8.size
         refine L_r (r_adds rfl rfl (by first | omega | (simp only [ByteArray.size_append]; omega))) ?_
         refine L_r (r_adds rfl rfl (by first | omega | (simp only [ByteArray.size_append]; omega))) (L_r (r_as rfl) (L_nil (W_region (L_r (r_mi rfl) ?_))))
         refine L_r (r_add rfl rfl (by first | exact wr_i64 (by omega) | rfl)) (L_r (r_ai rfl) (L_nil ?_))
         refine ⟨⟨fx2, fx2, trivial⟩, _, ?_, a + 1, rfl, (by first | exact congrArg Value.string (linT_one x.d a (by rw [← hs]; omega) _ (by rw [← hs]; exact letS x.d (by assumption))) | exact congrArg Value.string (linT_one x.d a (by rw [← hs]; omega) _ (by rw [← hs]; exact letO x.d (by assumption))) | exact congrArg Value.string (linT_one x.d a (by rw [← hs]; omega) _ (by rw [← hs]; exact letM x.d (by assumption))) | exact congrArg Value.string (linT_one x.d a (by rw [← hs]; omega) _ (by rw [← hs]; exact letN x.d (by assumption))) | exact congrArg Value.string (linT_one x.d a (by rw [← hs]; omega) _ (by rw [← hs]; exact letT x.d (by assumption))) | exact congrArg Value.string (linT_one x.d a (by rw [← hs]; omega) _ (by rw [← hs]; exact letR x.d (by assumption))) | exact congrArg Value.string (linT_one x.d a (by rw [← hs]; omega) _ (by rw [← hs]; exact letC x.d (by assumption))) | exact congrArg Value.string (linT_one x.d a (by rw [← hs]; omega) _ (by rw [← hs]; exact letX x.d (by assumption))) | (refine congrArg Value.string ?_; rw [linT_succ x.d a (by rw [← hs]; omega), ← hs, letA_j x.d (by assumption), List.take_of_length_le (by omega)])), ?_, rfl⟩
         · omega
         exact ⟨by omega, Bk.au, Ch.au⟩
        ·
         refine W_seq (W_region (L_r (r_eql rfl rfl) (L_r (r_ab rfl) (L_nil ?_))))
         refine W_if rfl (fun h68 => ?_) (fun h68 => ?_)
         ·
          refine W_region (L_r (r_ms rfl) ?_)
          refine L_r (r_fieldb Tryz.underlying29 rfl (show _ = some 1 from rfl) rfl rfl (show _ = 8 from rfl)) (L_r (r_lb rfl rfl) ?_)
          refine L_r (r_adds rfl rfl (by first | omega | (simp only [ByteArray.size_append]; omega))) ?_
          refine L_r (r_adds rfl rfl (by first | omega | (simp only [ByteArray.size_append]; omega))) (L_r (r_as rfl) (L_nil (W_region (L_r (r_mi rfl) ?_))))
          refine L_r (r_add rfl rfl (by first | exact wr_i64 (by omega) | rfl)) (L_r (r_ai rfl) (L_nil ?_))
          refine ⟨⟨fx2, fx2, trivial⟩, _, ?_, a + 1, rfl, (by first | exact congrArg Value.string (linT_one x.d a (by rw [← hs]; omega) _ (by rw [← hs]; exact letS x.d (by assumption))) | exact congrArg Value.string (linT_one x.d a (by rw [← hs]; omega) _ (by rw [← hs]; exact letO x.d (by assumption))) | exact congrArg Value.string (linT_one x.d a (by rw [← hs]; omega) _ (by rw [← hs]; exact letM x.d (by assumption))) | exact congrArg Value.string (linT_one x.d a (by rw [← hs]; omega) _ (by rw [← hs]; exact letN x.d (by assumption))) | exact congrArg Value.string (linT_one x.d a (by rw [← hs]; omega) _ (by rw [← hs]; exact letT x.d (by assumption))) | exact congrArg Value.string (linT_one x.d a (by rw [← hs]; omega) _ (by rw [← hs]; exact letR x.d (by assumption))) | exact congrArg Value.string (linT_one x.d a (by rw [← hs]; omega) _ (by rw [← hs]; exact letC x.d (by assumption))) | exact congrArg Value.string (linT_one x.d a (by rw [← hs]; omega) _ (by rw [← hs]; exact letX x.d (by assumption))) | (refine congrArg Value.string ?_; rw [linT_succ x.d a (by rw [← hs]; omega), ← hs, letA_j x.d (by assumption), List.take_of_length_le (by omega)])), ?_, rfl⟩
          · omega
          exact ⟨by omega, Bk.au, Ch.au⟩
         ·
          refine W_seq (W_region (L_r (r_eql rfl rfl) (L_r (r_ab rfl) (L_nil ?_))))
          refine W_if rfl (fun h75 => ?_) (fun h75 => ?_)
          ·
           refine W_region (L_r (r_ms rfl) ?_)
           refine L_r (r_fieldb Tryz.underlying29 rfl (show _ = some 1 from rfl) rfl rfl (show _ = 9 from rfl)) (L_r (r_lb rfl rfl) ?_)
           refine L_call (.plain rfl) rfl rfl (r_call Tryz.func46 rfl rfl rfl (by rfl)) (rhex_walk x.d.bytes _ (by omega)) ?_
           rintro v80 w9 ⟨rfl, c9⟩
           have hz9 := c9.size
           refine L_r (r_adds rfl rfl (by first | omega | (simp only [ByteArray.size_append]; omega))) ?_
           refine L_r (r_adds rfl rfl (by first | omega | (simp only [ByteArray.size_append]; omega))) (L_r (r_as rfl) (L_nil (W_region (L_r (r_mi rfl) ?_))))
           refine L_r (r_add rfl rfl (by first | exact wr_i64 (by omega) | rfl)) (L_r (r_ai rfl) (L_nil ?_))
           refine ⟨⟨fx2, fx2, trivial⟩, _, ?_, a + 1, rfl, (by first | exact congrArg Value.string (linT_one x.d a (by rw [← hs]; omega) _ (by rw [← hs]; exact letS x.d (by assumption))) | exact congrArg Value.string (linT_one x.d a (by rw [← hs]; omega) _ (by rw [← hs]; exact letO x.d (by assumption))) | exact congrArg Value.string (linT_one x.d a (by rw [← hs]; omega) _ (by rw [← hs]; exact letM x.d (by assumption))) | exact congrArg Value.string (linT_one x.d a (by rw [← hs]; omega) _ (by rw [← hs]; exact letN x.d (by assumption))) | exact congrArg Value.string (linT_one x.d a (by rw [← hs]; omega) _ (by rw [← hs]; exact letT x.d (by assumption))) | exact congrArg Value.string (linT_one x.d a (by rw [← hs]; omega) _ (by rw [← hs]; exact letR x.d (by assumption))) | exact congrArg Value.string (linT_one x.d a (by rw [← hs]; omega) _ (by rw [← hs]; exact letC x.d (by assumption))) | exact congrArg Value.string (linT_one x.d a (by rw [← hs]; omega) _ (by rw [← hs]; exact letX x.d (by assumption))) | (refine congrArg Value.string ?_; rw [linT_succ x.d a (by rw [← hs]; omega), ← hs, letA_j x.d (by assumption), List.take_of_length_le (by omega)])), ?_, rfl⟩
           · omega
           exact ⟨by omega, Bk.au, Ch.au⟩
          ·
           refine W_seq (W_region (L_r (r_eql rfl rfl) (L_r (r_ab rfl) (L_nil ?_))))
           refine W_if rfl (fun h83 => ?_) (fun h83 => ?_)
           ·
            refine W_seq (W_region (L_r (r_ai rfl) (L_nil (W_block ?_))))
            refine W_loopF [1, 4, 5] (fun mz_ f W => ∃ (j : Nat), f 6 = .int .i64 j ∧ f 3 = .string (sb (linT x.d a ++ Lib.joinTail [32] ((x.d.args.take j).map valB))) ∧ (j ≤ x.d.args.length ∧ Bk W b1 x.row 29 ∧ Nw w0 W) ∧ mz_ = x.d.args.length - j) ?_ ?_
            ·
             refine ⟨_, 0, rfl, (by refine congrArg Value.string ?_; rw [List.take_zero]; show _ = sb (linT x.d a ++ []); rw [List.append_nil]), ?_, rfl⟩
             exact ⟨by omega, Bk.au, Ch.au⟩
            rintro m1 g1 w10 ⟨j, hf6, hf3, hR1, rfl⟩
            refine W_as 6 hf6 rfl ?_
            refine W_as 3 hf3 rfl ?_
            clear hf6 hf3
            obtain ⟨hj, hk1, hnwj⟩ := hR1
            have hzj := hnwj.size
            have hjt := jt_len (l := (x.d.args.take j).map valB) 8 (by rw [List.length_map, List.length_take]; omega) (fun y hy => by
              obtain ⟨v, hv, rfl⟩ := List.mem_map.1 hy
              exact valB_200 (hk.args v (List.mem_of_mem_take hv)) (hr.2 v (List.mem_of_mem_take hv)))
            have hjs := sb_size (linT x.d a ++ Lib.joinTail [32] ((x.d.args.take j).map valB))
            rw [List.length_append] at hjs
            refine W_seq (W_seq (W_region (L_r (r_mi rfl) ?_)))
            refine L_r (r_fieldb Tryz.underlying29 rfl (show _ = some 1 from rfl) rfl rfl (show _ = 4 from rfl)) (L_r (r_lb rfl rfl) ?_)
            refine L_r (r_lenSl Tryz.underlying27 (by conv => lhs; whnf) Sl.au) (L_r (r_lss rfl rfl) (L_nil ?_))
            refine W_if rfl (fun h89 => ?_) (fun h89 => ?_)
            ·
             have hjl : j < x.d.args.length := by omega
             have hrow := cellsVa_row x.d.args j hjl
             have hmem := List.getElem_mem hjl
             obtain ⟨xv, hxv⟩ : ∃ xv, xv = x.d.args[j] := ⟨_, rfl⟩
             rw [← hxv] at hrow hmem
             have hap := hk.args xv hmem
             have hrv := hr.2 xv hmem
             have hv3 := valB_200 hap hrv
             have hv4 := sb_size (valB xv)
             have hsv : xv.s.size = 0 := by rcases hap with h | h | h | h <;> (first | (rw [h.2.2.1]; rfl) | (rw [h.2.1]; rfl))
             refine W_skip (W_seq (W_block (W_region (L_r (r_ms rfl) ?_))))
             refine L_r (r_fieldb Tryz.underlying29 rfl (show _ = some 1 from rfl) rfl rfl (show _ = 4 from rfl)) (L_r (r_lb rfl rfl) (L_r (r_mi rfl) ?_))
             refine L_r (r_ix Tryz.underlying27 (show _ = some 4 from rfl) (by conv => lhs; whnf) rfl Sl.au) ?_
             refine L_r (r_loadSlrow (us := [.int .i64 xv.sort, .int .i64 xv.n, .string xv.s, .int .i64 xv.ref]) Tryz.underlying43 rfl rfl rfl rfl Sl.au (by exact hrow)) ?_
             refine L_call (.plain rfl) rfl rfl (r_call Tryz.func45 rfl rfl rfl (by rfl)) (rvalue_walk xv _ (by omega) hrv (by rcases hap with h | h | h | h <;> omega)) ?_
             rintro v98 w11 ⟨rfl, c11⟩
             have hz11 := c11.size
             refine L_r (r_adds rfl rfl (by first | omega | (simp only [ByteArray.size_append]; omega))) ?_
             refine L_r (r_adds rfl rfl (by first | omega | (simp only [ByteArray.size_append]; omega))) (L_r (r_as rfl) (L_nil (W_region (L_r (r_mi rfl) ?_))))
             refine L_r (r_add rfl rfl (by first | exact wr_i64 (by omega) | rfl)) (L_r (r_ai rfl) (L_nil ?_))
             refine ⟨⟨fx2, fx2, fx2, trivial⟩, _, ?_, j + 1, rfl, (by exact congrArg Value.string (by rw [hxv]; exact linT_arg _ _ j hjl)), ?_, rfl⟩
             · omega
             exact ⟨by omega, Bk.au, Ch.au⟩
            ·
             refine W_exit ?_
             repeat (first | refine blk_hit ?_ | refine blk_miss rfl ?_)
             refine W_region (L_r (r_mi rfl) ?_)
             refine L_r (r_add rfl rfl (by first | exact wr_i64 (by omega) | rfl)) (L_r (r_ai rfl) (L_nil ?_))
             refine ⟨⟨fx2, fx2, trivial⟩, _, ?_, a + 1, rfl, (by first | exact congrArg Value.string (linT_one x.d a (by rw [← hs]; omega) _ (by rw [← hs]; exact letS x.d (by assumption))) | exact congrArg Value.string (linT_one x.d a (by rw [← hs]; omega) _ (by rw [← hs]; exact letO x.d (by assumption))) | exact congrArg Value.string (linT_one x.d a (by rw [← hs]; omega) _ (by rw [← hs]; exact letM x.d (by assumption))) | exact congrArg Value.string (linT_one x.d a (by rw [← hs]; omega) _ (by rw [← hs]; exact letN x.d (by assumption))) | exact congrArg Value.string (linT_one x.d a (by rw [← hs]; omega) _ (by rw [← hs]; exact letT x.d (by assumption))) | exact congrArg Value.string (linT_one x.d a (by rw [← hs]; omega) _ (by rw [← hs]; exact letR x.d (by assumption))) | exact congrArg Value.string (linT_one x.d a (by rw [← hs]; omega) _ (by rw [← hs]; exact letC x.d (by assumption))) | exact congrArg Value.string (linT_one x.d a (by rw [← hs]; omega) _ (by rw [← hs]; exact letX x.d (by assumption))) | (refine congrArg Value.string ?_; rw [linT_succ x.d a (by rw [← hs]; omega), ← hs, letA_j x.d (by assumption), List.take_of_length_le (by omega)])), ?_, rfl⟩
             · omega
             exact ⟨by omega, Bk.au, Ch.au⟩
           ·
            exfalso
            unfold onlyLs at hls
            simp only [List.mem_cons, List.not_mem_nil, or_false] at hls
            omega
  ·
   refine W_exit ?_
   repeat (first | refine blk_hit ?_ | refine blk_miss rfl ?_)
   refine W_seq (W_region (L_r (r_ms rfl) ?_))
   refine L_r (r_adds rfl rfl (by first | omega | (simp only [ByteArray.size_append]; omega))) (L_r (r_as rfl) (L_nil (W_ret ?_)))
   refine ret1 (v := .string _) rfl rfl ?_
   refine ⟨congrArg Value.string ?_, Ch.au⟩
   have hae : a = (hasF x.d.kind).size := by rw [← hs]; omega
   rw [hae, linT_all]
   unfold linD
   rw [sb_append]
   rfl
end Go.Proofs.YtgmeojpekdekeaaGreatDoor

namespace Go.Proofs.YtgmeojpekdekeaaGreatDoor
open Go Go.RowKit
set_option linter.unusedVariables false
set_option linter.unusedSimpArgs false
set_option maxRecDepth 100000
theorem hasO_some (k : ByteArray) : (hasO k).isSome = true ↔ hasF k ≠ mtB := by
  unfold hasF hasO
  cases hf : entT.find? fun e => decide (e.1 = k) with
  | none => simp
  | some e =>
    have key : ∀ e ∈ entT, e.2 ≠ mtB := by decide
    have := key e (List.mem_of_find?_eq_some hf)
    simp [this]
def ck0 (d : Dd) : Prop := hasF d.kind = mtB ∨ 8 < d.args.length ∨ (0 < d.args.length ∧ ¬ hasC d.kind 97)
def ck1 (d : Dd) : Prop := d.side = 0 ∨ (d.side = 1 ∧ hasC d.kind 115)
def ck2 (d : Dd) : Prop := ck1 d ∧ numP d.n (hasC d.kind 110) ∧ numP d.at' (hasC d.kind 116) ∧ numP d.ref (hasC d.kind 114)
def ck3 (d : Dd) : Prop := ck2 d ∧ (d.obj = 0 ∨ hasC d.kind 111) ∧ (d.bytes = mtB ∨ (hasC d.kind 98 ∧ d.bytes.size ≤ 100))
def ck4 (d : Dd) : Prop := ck3 d ∧ (if hasC d.kind 109 then memP d.method else d.method = mtB)
def ck5 (d : Dd) : Prop := ck4 d ∧ (if hasC d.kind 99 then classP d.cls else d.cls = mtB)
noncomputable instance (d : Dd) : Decidable (ck0 d) := Classical.propDecidable _
noncomputable instance (d : Dd) : Decidable (ck1 d) := Classical.propDecidable _
noncomputable instance (d : Dd) : Decidable (ck2 d) := Classical.propDecidable _
noncomputable instance (d : Dd) : Decidable (ck3 d) := Classical.propDecidable _
noncomputable instance (d : Dd) : Decidable (ck4 d) := Classical.propDecidable _
noncomputable instance (d : Dd) : Decidable (ck5 d) := Classical.propDecidable _
theorem ck_all (d : Dd) : chkD d ↔ ¬ ck0 d ∧ (∀ v ∈ d.args, argP v) ∧ ck5 d := by
  constructor
  ·
   intro h
   refine ⟨?_, h.args, ⟨⟨⟨h.side, h.n, h.at', h.ref⟩, h.obj, h.bytes⟩, ?_⟩, ?_⟩
   ·
    rintro (k | k | ⟨k1, k2⟩)
    · exact (hasO_some _).1 h.kind k
    · have := h.len; omega
    · exact k2 (h.has fun e => by rw [e] at k1; simp at k1)
   ·
    split
    · exact h.m1 (by assumption)
    · exact h.m0 (by assumption)
   ·
    split
    · exact h.c1 (by assumption)
    · exact h.c0 (by assumption)
  ·
   rintro ⟨h0, ha, ⟨⟨⟨h1, h2, h3, h4⟩, h5, h6⟩, h7⟩, h8⟩
   refine ⟨(hasO_some _).2 fun e => h0 (.inl e), ?_, fun e => ?_, ha, h1, h2, h3, h4, h5, h6, fun k => by rw [if_pos k] at h7; exact h7, fun k => by rw [if_neg k] at h7; exact h7, fun k => by rw [if_pos k] at h8; exact h8, fun k => by rw [if_neg k] at h8; exact h8⟩
   ·
    rcases Nat.lt_or_ge 8 d.args.length with k | k
    · exact absurd (.inr (.inl k)) h0
    · exact k
   ·
    apply Classical.not_not.1
    intro k
    exact h0 (.inr (.inr ⟨List.length_pos_iff.2 e, k⟩))
set_option maxHeartbeats 4000000 in
theorem rcheck_walk (x : DD) (w0 : World) (hx : x.ok w0) (hl : x.d.args.length ≤ 1000000000000000) (hm : x.d.method.size ≤ 1000000000000000) (hc : x.d.cls.size ≤ 1000000000000000) : Does Tryz.prog 11 #[x.v] w0 (fun r w' => ∃ b : Bool, r = .bool b ∧ (b = true ↔ chkD x.d) ∧ Nw w0 w') := by
  have hsl : Sl w0 x.va 4 x.d.args.length (cellsVa x.d.args) := hx
  have hs4 : (hasF x.d.kind).size ≤ 4 := hasF_4 _
  have hall := ck_all x.d
  refine fn_of (n := 129) (args := [x.v]) Tryz.func11 rfl rfl rfl (W_seq (W_region ?_))
  refine L_new (.plain rfl) rfl rfl (r_boxa rfl) (fun w1 b1 hb1 eb1 hs1 c1 => (L_r (r_ab rfl) (L_nil (W_seq (W_region ?_)))))
  refine L_r (r_fieldb Tryz.underlying29 rfl (show _ = some 1 from rfl) rfl rfl (show _ = 0 from rfl)) (L_r (r_lb rfl rfl) ?_)
  refine L_call (.plain rfl) rfl rfl (r_call Tryz.func28 rfl rfl rfl (by rfl)) (rhas_walk x.d.kind _) ?_
  rintro v8 w2 ⟨rfl, c2⟩
  have hz2 := c2.size
  refine L_r (r_as rfl) (L_nil (W_seq ?_))
  refine W_cutF [1, 3] (fun f W => f 27 = .bool (decide (ck0 x.d)) ∧ (Bk W b1 x.row 29 ∧ Nw w0 W)) ?_ ?_
  ·
   refine W_region (L_r (r_ms rfl) (L_r (r_eqls rfl rfl) (L_r (r_mb rfl) ?_)))
   refine L_case (d := 11) rfl (fun h11 => ?_) (fun h11 => ?_)
   ·
    refine L_ps (L_ps (L_ps (L_ps (L_r (r_pt rfl rfl) (L_r (r_mb rfl) (L_ps (L_ps (L_ps ?_))))))))
    refine L_ps (L_ps ?_)
    refine L_pu ?_
    refine L_pu ?_
    refine L_pu (L_ps (L_r (r_pt rfl rfl) (L_nil ?_)))
    refine ⟨⟨fx2, fx2, trivial⟩, (dec_t (by clear hall; unfold ck0; first | (simp_all [hasC]; done) | (refine .inr (.inl ?_); omega) | (intro h; rcases h with h | h | h; exact absurd h (by assumption); omega; omega) | (refine Iff.intro (fun h => .inr (.inr ⟨?_, ?_⟩)) (fun h => ?_); omega; (simpa [hasC] using h); rcases h with h | h | h; exact absurd h (by assumption); omega; (simpa [hasC] using h.2)))), ?_⟩
    exact ⟨Bk.au, Ch.au⟩
   ·
    refine L_g (r_fieldb Tryz.underlying29 rfl (show _ = some 1 from rfl) rfl rfl (show _ = 4 from rfl)) ?_
    refine L_g (r_lb rfl rfl) ?_
    refine L_g (r_lenSl Tryz.underlying27 (by conv => lhs; whnf) Sl.au) ?_
    refine L_g (r_gtr rfl rfl) (L_r (r_pf rfl rfl) (L_r (r_mb rfl) ?_))
    refine L_case (d := 17) rfl (fun h17 => ?_) (fun h17 => ?_)
    ·
     refine L_ps (L_ps (L_ps (L_ps (L_ps ?_))))
     refine L_pu ?_
     refine L_pu ?_
     refine L_pu (L_ps (L_r (r_pt rfl rfl) (L_nil ?_)))
     refine ⟨⟨fx2, fx2, trivial⟩, (dec_t (by clear hall; unfold ck0; first | (simp_all [hasC]; done) | (refine .inr (.inl ?_); omega) | (intro h; rcases h with h | h | h; exact absurd h (by assumption); omega; omega) | (refine Iff.intro (fun h => .inr (.inr ⟨?_, ?_⟩)) (fun h => ?_); omega; (simpa [hasC] using h); rcases h with h | h | h; exact absurd h (by assumption); omega; (simpa [hasC] using h.2)))), ?_⟩
     exact ⟨Bk.au, Ch.au⟩
    ·
     refine L_g (r_fieldb Tryz.underlying29 rfl (show _ = some 1 from rfl) rfl rfl (show _ = 4 from rfl)) ?_
     refine L_g (r_lb rfl rfl) ?_
     refine L_g (r_lenSl Tryz.underlying27 (by conv => lhs; whnf) Sl.au) ?_
     refine L_g (r_gtr rfl rfl) ?_
     refine L_g (r_mb rfl) ?_
     refine L_case (d := 22) rfl (fun h22 => ?_) (fun h22 => ?_)
     ·
      refine L_g (r_ms rfl) ?_
      refine L_call (.yes 13 true rfl rfl) rfl rfl (r_call Tryz.func29 rfl rfl rfl (by rfl)) (rhasc_walk (hasF x.d.kind) 97 _ (by omega)) ?_
      rintro v24 w3 ⟨rfl, c3⟩
      have hz3 := c3.size
      refine L_g (r_not rfl) ?_
      refine L_g (r_pt rfl rfl) (L_r (r_pf rfl rfl) (L_nil ?_))
      refine ⟨⟨fx2, fx2, trivial⟩, (dec_b (by clear hall; unfold ck0; first | (simp_all [hasC]; done) | (refine .inr (.inl ?_); omega) | (intro h; rcases h with h | h | h; exact absurd h (by assumption); omega; omega) | (refine Iff.intro (fun h => .inr (.inr ⟨?_, ?_⟩)) (fun h => ?_); omega; (simpa [hasC] using h); rcases h with h | h | h; exact absurd h (by assumption); omega; (simpa [hasC] using h.2)))), ?_⟩
      exact ⟨Bk.au, Ch.au⟩
     ·
      refine L_ps (L_ps (L_ps ?_))
      refine L_g (r_pf rfl rfl) (L_r (r_pf rfl rfl) (L_nil ?_))
      refine ⟨⟨fx2, fx2, trivial⟩, (dec_f (by clear hall; unfold ck0; first | (simp_all [hasC]; done) | (refine .inr (.inl ?_); omega) | (intro h; rcases h with h | h | h; exact absurd h (by assumption); omega; omega) | (refine Iff.intro (fun h => .inr (.inr ⟨?_, ?_⟩)) (fun h => ?_); omega; (simpa [hasC] using h); rcases h with h | h | h; exact absurd h (by assumption); omega; (simpa [hasC] using h.2)))), ?_⟩
      exact ⟨Bk.au, Ch.au⟩
  rintro gcr2 w4 ⟨hf27, hCr2⟩
  refine W_as 27 hf27 rfl ?_
  clear hf27
  obtain ⟨hk1, hnw2⟩ := hCr2
  have hz2 := hnw2.size
  refine W_if rfl (fun h27 => ?_) (fun h27 => ?_)
  ·
   refine W_seq (W_region (L_r (r_ab rfl) (L_nil (W_ret ?_))))
   refine ret1 (v := .bool _) rfl rfl ?_
   refine ⟨_, rfl, ?_, Ch.au⟩
   rw [hall]
   first
   | exact ⟨fun h => absurd h (by decide), fun h => absurd h27 h.1⟩
   | exact ⟨fun h => absurd h (by decide), fun h => absurd (h.2.1 xv hmem) (by simpa using h41)⟩
   | (have h0 : ¬ ck0 x.d := h27
      clear hall hpa h27
      rw [show (¬ ck0 x.d ∧ (∀ v ∈ x.d.args, argP v) ∧ ck5 x.d) ↔ ck5 x.d from ⟨fun h => h.2.2, fun h => ⟨h0, hargs, h⟩⟩]
      clear hargs h0
      unfold ck5
      simp_all [hasC])
  ·
   refine W_skip (W_seq (W_seq (W_region (L_r (r_ai rfl) (L_nil (W_block ?_))))))
   refine W_loopF [1, 3] (fun mz_ f W => ∃ (i : Nat), f 4 = .int .i64 i ∧ (i ≤ x.d.args.length ∧ (∀ j (h : j < x.d.args.length), j < i → argP x.d.args[j]) ∧ Bk W b1 x.row 29 ∧ Nw w0 W) ∧ mz_ = x.d.args.length - i) ?_ ?_
   ·
    refine ⟨_, 0, rfl, ?_, rfl⟩
    exact ⟨by omega, fun j h hj => absurd hj (by omega), Bk.au, Ch.au⟩
   rintro m0 g0 w5 ⟨i, hf4, hR0, rfl⟩
   refine W_as 4 hf4 rfl ?_
   clear hf4
   obtain ⟨hi, hpa, hk1, hnw⟩ := hR0
   have hz := hnw.size
   refine W_seq (W_seq (W_region (L_r (r_mi rfl) ?_)))
   refine L_r (r_fieldb Tryz.underlying29 rfl (show _ = some 1 from rfl) rfl rfl (show _ = 4 from rfl)) (L_r (r_lb rfl rfl) ?_)
   refine L_r (r_lenSl Tryz.underlying27 (by conv => lhs; whnf) Sl.au) (L_r (r_lss rfl rfl) (L_nil ?_))
   refine W_if rfl (fun h32 => ?_) (fun h32 => ?_)
   ·
    have hil : i < x.d.args.length := by omega
    have hrow := cellsVa_row x.d.args i hil
    have hmem := List.getElem_mem hil
    obtain ⟨xv, hxv⟩ : ∃ xv, xv = x.d.args[i] := ⟨_, rfl⟩
    rw [← hxv] at hrow hmem
    refine W_skip (W_seq (W_block (W_seq (W_region ?_))))
    refine L_r (r_fieldb Tryz.underlying29 rfl (show _ = some 1 from rfl) rfl rfl (show _ = 4 from rfl)) (L_r (r_lb rfl rfl) (L_r (r_mi rfl) ?_))
    refine L_r (r_ix Tryz.underlying27 (show _ = some 4 from rfl) (by conv => lhs; whnf) rfl Sl.au) ?_
    refine L_r (r_loadSlrow (us := [.int .i64 xv.sort, .int .i64 xv.n, .string xv.s, .int .i64 xv.ref]) Tryz.underlying43 rfl rfl rfl rfl Sl.au (by exact hrow)) ?_
    refine L_call (.plain rfl) rfl rfl (r_call Tryz.func30 rfl rfl rfl (by rfl)) (rarg_walk xv _) ?_
    rintro v40 w6 ⟨rfl, c6⟩
    have hz6 := c6.size
    refine L_r (r_not rfl) (L_nil ?_)
    refine W_bool rfl (fun h41 => ?_) (fun h41 => ?_)
    ·
     refine W_seq (W_region (L_r (r_ab rfl) (L_nil (W_ret ?_))))
     refine ret1 (v := .bool _) rfl rfl ?_
     refine ⟨_, rfl, ?_, Ch.au⟩
     rw [hall]
     first
     | exact ⟨fun h => absurd h (by decide), fun h => absurd h27 h.1⟩
     | exact ⟨fun h => absurd h (by decide), fun h => absurd (h.2.1 xv hmem) (by simpa using h41)⟩
     | (have h0 : ¬ ck0 x.d := h27
        clear hall hpa h27
        rw [show (¬ ck0 x.d ∧ (∀ v ∈ x.d.args, argP v) ∧ ck5 x.d) ↔ ck5 x.d from ⟨fun h => h.2.2, fun h => ⟨h0, hargs, h⟩⟩]
        clear hargs h0
        unfold ck5
        simp_all [hasC])
    ·
     refine W_skip (W_region (L_r (r_mi rfl) ?_))
     refine L_r (r_add rfl rfl (by first | exact wr_i64 (by omega) | rfl)) (L_r (r_ai rfl) (L_nil ?_))
     refine ⟨⟨fx2, fx2, trivial⟩, _, ?_, i + 1, rfl, ?_, rfl⟩
     · omega
     refine ⟨by omega, fun j h hj => ?_, Bk.au, Ch.au⟩
     rcases Nat.lt_or_ge j i with k | k
     · exact hpa j h k
     ·
      have e : j = i := by omega
      subst e
      rw [← hxv]; simpa using h41
   ·
    have hargs : ∀ v ∈ x.d.args, argP v := by
      intro v hv
      obtain ⟨j, hj, rfl⟩ := List.getElem_of_mem hv
      exact hpa j hj (by omega)
    refine W_exit ?_
    repeat (first | refine blk_hit ?_ | refine blk_miss rfl ?_)
    refine W_cutF [1, 3] (fun f W => f 5 = .bool (decide (ck1 x.d)) ∧ (Bk W b1 x.row 29 ∧ Nw w0 W)) ?_ ?_
    ·
     refine W_region ?_
     refine L_r (r_fieldb Tryz.underlying29 rfl (show _ = some 1 from rfl) rfl rfl (show _ = 1 from rfl)) (L_r (r_lb rfl rfl) (L_r (r_eql rfl rfl) (L_r (r_mb rfl) ?_)))
     refine L_case (d := 45) rfl (fun h45 => ?_) (fun h45 => ?_)
     ·
      refine L_ps (L_ps (L_ps (L_ps ?_)))
      refine L_pu ?_
      refine L_pu (L_ps (L_r (r_pt rfl rfl) (L_r (r_ab rfl) (L_nil ?_))))
      refine ⟨⟨fx2, fx2, trivial⟩, (dec_t (by clear hall hpa hargs; unfold ck1; first | (simp_all [hasC]; done) | (simp_all [hasC]; omega))), ?_⟩
      exact ⟨Bk.au, Ch.au⟩
     ·
      refine L_g (r_fieldb Tryz.underlying29 rfl (show _ = some 1 from rfl) rfl rfl (show _ = 1 from rfl)) ?_
      refine L_g (r_lb rfl rfl) ?_
      refine L_g (r_eql rfl rfl) ?_
      refine L_g (r_mb rfl) ?_
      refine L_case (d := 49) rfl (fun h49 => ?_) (fun h49 => ?_)
      ·
       refine L_g (r_ms rfl) ?_
       refine L_call (.yes 7 true rfl rfl) rfl rfl (r_call Tryz.func29 rfl rfl rfl (by rfl)) (rhasc_walk (hasF x.d.kind) 115 _ (by omega)) ?_
       rintro v51 w7 ⟨rfl, c7⟩
       have hz7 := c7.size
       refine L_g (r_pt rfl rfl) (L_r (r_pf rfl rfl) (L_r (r_ab rfl) (L_nil ?_)))
       refine ⟨⟨fx2, fx2, trivial⟩, (dec_b (by clear hall hpa hargs; unfold ck1; first | (simp_all [hasC]; done) | (simp_all [hasC]; omega))), ?_⟩
       exact ⟨Bk.au, Ch.au⟩
      ·
       refine L_ps (L_ps ?_)
       refine L_g (r_pf rfl rfl) (L_r (r_pf rfl rfl) (L_r (r_ab rfl) (L_nil ?_)))
       refine ⟨⟨fx2, fx2, trivial⟩, (dec_f (by clear hall hpa hargs; unfold ck1; first | (simp_all [hasC]; done) | (simp_all [hasC]; omega))), ?_⟩
       exact ⟨Bk.au, Ch.au⟩
    rintro gcr9 w8 ⟨hf5, hCr9⟩
    refine W_as 5 hf5 rfl ?_
    clear hf5
    obtain ⟨hk9, hnw9⟩ := hCr9
    have hz9 := hnw9.size
    refine W_cutF [1, 3] (fun f W => f 5 = .bool (decide (ck2 x.d)) ∧ (Bk W b1 x.row 29 ∧ Nw w0 W)) ?_ ?_
    ·
     refine W_draw (fun W => Bk W b1 x.row 29) 23 (m := 23) (by kernel_rfl) rfl (fun w9 c9 hs9 => ?_)
     refine held Bk.au (fun hS => ?_)
     refine D_t 0 rfl (fun W hW => r_mb rfl) ?_
     refine D_t 1 rfl (fun W hW => r_mb rfl) ?_
     refine D_case (d := 55) rfl (fun h55 => ?_) (fun h55 => ?_)
     ·
      refine D_g 2 rfl (fun W hW => r_fieldb Tryz.underlying29 rfl (show _ = some 1 from rfl) rfl rfl (show _ = 5 from rfl)) ?_
      refine D_g 3 rfl (fun W hW => r_loadb rfl rfl (by exact hW) (by first | assumption | (conv => lhs; simp only [List.getElem?_toArray, List.getElem?_cons_succ, List.getElem?_cons_zero]))) ?_
      refine D_g 4 rfl (fun W hW => r_ms rfl) ?_
      refine D_ev 5 (by kernel_rfl) rfl ?_
      refine L_call (.yes 1 true rfl rfl) rfl rfl (r_call Tryz.func29 rfl rfl rfl (by rfl)) (rhasc_walk (hasF x.d.kind) 110 _ (by omega)) ?_
      rintro v59 w10 ⟨rfl, c10⟩
      have hz10 := c10.size
      refine L_nil ?_
      refine heldK Bk.au (fun hS => ?_)
      refine D_ev 6 (by kernel_rfl) rfl ?_
      refine L_call (.yes 1 true rfl rfl) rfl rfl (r_call Tryz.func31 rfl rfl rfl (by rfl)) (rnumber_walk _ _ _) ?_
      rintro v60 w11 ⟨rfl, c11⟩
      have hz11 := c11.size
      refine L_nil ?_
      refine heldK Bk.au (fun hS => ?_)
      refine D_t 7 rfl (fun W hW => r_pt rfl rfl) ?_
      refine D_t 8 rfl (fun W hW => r_mb rfl) ?_
      refine D_caseb (d := 62) rfl (fun h62 => ?_) (fun h62 => ?_)
      ·
       refine D_g 9 rfl (fun W hW => r_fieldb Tryz.underlying29 rfl (show _ = some 1 from rfl) rfl rfl (show _ = 6 from rfl)) ?_
       refine D_g 10 rfl (fun W hW => r_loadb rfl rfl (by exact hW) (by first | assumption | (conv => lhs; simp only [List.getElem?_toArray, List.getElem?_cons_succ, List.getElem?_cons_zero]))) ?_
       refine D_g 11 rfl (fun W hW => r_ms rfl) ?_
       refine D_ev 12 (by kernel_rfl) rfl ?_
       refine L_call (.yes 8 true rfl rfl) rfl rfl (r_call Tryz.func29 rfl rfl rfl (by rfl)) (rhasc_walk (hasF x.d.kind) 116 _ (by omega)) ?_
       rintro v66 w12 ⟨rfl, c12⟩
       have hz12 := c12.size
       refine L_nil ?_
       refine heldK Bk.au (fun hS => ?_)
       refine D_ev 13 (by kernel_rfl) rfl ?_
       refine L_call (.yes 8 true rfl rfl) rfl rfl (r_call Tryz.func31 rfl rfl rfl (by rfl)) (rnumber_walk _ _ _) ?_
       rintro v67 w13 ⟨rfl, c13⟩
       have hz13 := c13.size
       refine L_nil ?_
       refine heldK Bk.au (fun hS => ?_)
       refine D_t 14 rfl (fun W hW => r_pt rfl rfl) ?_
       refine D_t 15 rfl (fun W hW => r_mb rfl) ?_
       refine D_caseb (d := 69) rfl (fun h69 => ?_) (fun h69 => ?_)
       ·
        refine D_g 16 rfl (fun W hW => r_fieldb Tryz.underlying29 rfl (show _ = some 1 from rfl) rfl rfl (show _ = 7 from rfl)) ?_
        refine D_g 17 rfl (fun W hW => r_loadb rfl rfl (by exact hW) (by first | assumption | (conv => lhs; simp only [List.getElem?_toArray, List.getElem?_cons_succ, List.getElem?_cons_zero]))) ?_
        refine D_g 18 rfl (fun W hW => r_ms rfl) ?_
        refine D_ev 19 (by kernel_rfl) rfl ?_
        refine L_call (.yes 15 true rfl rfl) rfl rfl (r_call Tryz.func29 rfl rfl rfl (by rfl)) (rhasc_walk (hasF x.d.kind) 114 _ (by omega)) ?_
        rintro v73 w14 ⟨rfl, c14⟩
        have hz14 := c14.size
        refine L_nil ?_
        refine heldK Bk.au (fun hS => ?_)
        refine D_ev 20 (by kernel_rfl) rfl ?_
        refine L_call (.yes 15 true rfl rfl) rfl rfl (r_call Tryz.func31 rfl rfl rfl (by rfl)) (rnumber_walk _ _ _) ?_
        rintro v74 w15 ⟨rfl, c15⟩
        have hz15 := c15.size
        refine L_nil ?_
        refine heldK Bk.au (fun hS => ?_)
        refine D_t 21 rfl (fun W hW => r_pt rfl rfl) ?_
        refine D_t 22 rfl (fun W hW => r_ab rfl) ?_
        refine D_done (by kernel_rfl) ?_
        refine ⟨⟨fx2, fx2, trivial⟩, (dec_b (by clear hall hpa hargs; unfold ck2; first | (simp_all [hasC]; done) | (simp_all [hasC]; omega))), ?_⟩
        exact ⟨Bk.au, Ch.au⟩
       ·
        refine D_ps 16 rfl ?_
        refine D_ps 17 rfl ?_
        refine D_ps 18 rfl ?_
        refine D_ps 19 rfl ?_
        refine D_ps 20 rfl ?_
        refine D_t 21 rfl (fun W hW => r_pf rfl rfl) ?_
        refine D_t 22 rfl (fun W hW => r_ab rfl) ?_
        refine D_done (by kernel_rfl) ?_
        refine ⟨⟨fx2, fx2, trivial⟩, (dec_f (by clear hall hpa hargs; unfold ck2; first | (simp_all [hasC]; done) | (simp_all [hasC]; omega))), ?_⟩
        exact ⟨Bk.au, Ch.au⟩
      ·
       refine D_ps 9 rfl ?_
       refine D_ps 10 rfl ?_
       refine D_ps 11 rfl ?_
       refine D_ps 12 rfl ?_
       refine D_ps 13 rfl ?_
       refine D_t 14 rfl (fun W hW => r_pf rfl rfl) ?_
       refine D_t 15 rfl (fun W hW => r_mb rfl) ?_
       refine D_ps 16 rfl ?_
       refine D_ps 17 rfl ?_
       refine D_ps 18 rfl ?_
       refine D_ps 19 rfl ?_
       refine D_ps 20 rfl ?_
       refine D_t 21 rfl (fun W hW => r_pf rfl rfl) ?_
       refine D_t 22 rfl (fun W hW => r_ab rfl) ?_
       refine D_done (by kernel_rfl) ?_
       refine ⟨⟨fx2, fx2, trivial⟩, (dec_f (by clear hall hpa hargs; unfold ck2; first | (simp_all [hasC]; done) | (simp_all [hasC]; omega))), ?_⟩
       exact ⟨Bk.au, Ch.au⟩
     ·
      refine D_ps 2 rfl ?_
      refine D_ps 3 rfl ?_
      refine D_ps 4 rfl ?_
      refine D_ps 5 rfl ?_
      refine D_ps 6 rfl ?_
      refine D_t 7 rfl (fun W hW => r_pf rfl rfl) ?_
      refine D_t 8 rfl (fun W hW => r_mb rfl) ?_
      refine D_ps 9 rfl ?_
      refine D_ps 10 rfl ?_
      refine D_ps 11 rfl ?_
      refine D_ps 12 rfl ?_
      refine D_ps 13 rfl ?_
      refine D_t 14 rfl (fun W hW => r_pf rfl rfl) ?_
      refine D_t 15 rfl (fun W hW => r_mb rfl) ?_
      refine D_ps 16 rfl ?_
      refine D_ps 17 rfl ?_
      refine D_ps 18 rfl ?_
      refine D_ps 19 rfl ?_
      refine D_ps 20 rfl ?_
      refine D_t 21 rfl (fun W hW => r_pf rfl rfl) ?_
      refine D_t 22 rfl (fun W hW => r_ab rfl) ?_
      refine D_done (by kernel_rfl) ?_
      refine ⟨⟨fx2, fx2, trivial⟩, (dec_f (by clear hall hpa hargs; unfold ck2; first | (simp_all [hasC]; done) | (simp_all [hasC]; omega))), ?_⟩
      exact ⟨Bk.au, Ch.au⟩
    rintro gcr10 w16 ⟨hf5, hCr10⟩
    refine W_as 5 hf5 rfl ?_
    clear hf5
    obtain ⟨hk10, hnw10⟩ := hCr10
    have hz10 := hnw10.size
    refine W_cutF [1, 3] (fun f W => f 5 = .bool (decide (ck3 x.d)) ∧ (Bk W b1 x.row 29 ∧ Nw w0 W)) ?_ ?_
    ·
     refine W_region (L_r (r_mb rfl) (L_r (r_mb rfl) ?_))
     refine L_case (d := 77) rfl (fun h77 => ?_) (fun h77 => ?_)
     ·
      refine L_g (r_fieldb Tryz.underlying29 rfl (show _ = some 1 from rfl) rfl rfl (show _ = 2 from rfl)) ?_
      refine L_g (r_lb rfl rfl) ?_
      refine L_g (r_eql rfl rfl) ?_
      refine L_g (r_mb rfl) ?_
      refine L_case (d := 81) rfl (fun h81 => ?_) (fun h81 => ?_)
      ·
       refine L_ps (L_ps ?_)
       refine L_g (r_pt rfl rfl) (L_r (r_pt rfl rfl) (L_r (r_mb rfl) ?_))
       refine L_g (r_fieldb Tryz.underlying29 rfl (show _ = some 1 from rfl) rfl rfl (show _ = 9 from rfl)) ?_
       refine L_g (r_lb rfl rfl) ?_
       refine L_g (r_eqls rfl rfl) ?_
       refine L_g (r_mb rfl) ?_
       refine L_case (d := 90) rfl (fun h90 => ?_) (fun h90 => ?_)
       ·
        refine L_ps (L_ps (L_ps ?_))
        refine L_pu ?_
        refine L_pu ?_
        refine L_pu ?_
        refine L_pu (L_ps ?_)
        refine L_g (r_pt rfl rfl) (L_r (r_pt rfl rfl) (L_r (r_ab rfl) (L_nil ?_)))
        refine ⟨⟨fx2, fx2, trivial⟩, (dec_t (by clear hall hpa hargs; unfold ck3; first | (simp_all [hasC]; done) | (simp_all [hasC]; omega))), ?_⟩
        exact ⟨Bk.au, Ch.au⟩
       ·
        refine L_g (r_ms rfl) ?_
        refine L_call (.yes 14 false rfl rfl) rfl rfl (r_call Tryz.func29 rfl rfl rfl (by rfl)) (rhasc_walk (hasF x.d.kind) 98 _ (by omega)) ?_
        rintro v92 w17 ⟨rfl, c17⟩
        have hz17 := c17.size
        refine L_g (r_mb rfl) ?_
        refine L_caseb (d := 93) rfl (fun h93 => ?_) (fun h93 => ?_)
        ·
         refine L_g (r_fieldb Tryz.underlying29 rfl (show _ = some 1 from rfl) rfl rfl (show _ = 9 from rfl)) ?_
         refine L_g (r_lb rfl rfl) ?_
         refine L_g (r_lens Tryz.underlying9 rfl) ?_
         refine L_g (r_leq rfl rfl) ?_
         refine L_g (r_pt rfl rfl) ?_
         refine L_g (r_pf rfl rfl) (L_r (r_pt rfl rfl) (L_r (r_ab rfl) (L_nil ?_)))
         refine ⟨⟨fx2, fx2, trivial⟩, (dec_i (by clear hall hpa hargs; unfold ck3; first | (simp_all [hasC]; done) | (simp_all [hasC]; omega))), ?_⟩
         exact ⟨Bk.au, Ch.au⟩
        ·
         refine L_ps (L_ps (L_ps (L_ps ?_)))
         refine L_g (r_pf rfl rfl) ?_
         refine L_g (r_pf rfl rfl) (L_r (r_pt rfl rfl) (L_r (r_ab rfl) (L_nil ?_)))
         refine ⟨⟨fx2, fx2, trivial⟩, (dec_f (by clear hall hpa hargs; unfold ck3; first | (simp_all [hasC]; done) | (simp_all [hasC]; omega))), ?_⟩
         exact ⟨Bk.au, Ch.au⟩
      ·
       refine L_g (r_ms rfl) ?_
       refine L_call (.yes 5 false rfl rfl) rfl rfl (r_call Tryz.func29 rfl rfl rfl (by rfl)) (rhasc_walk (hasF x.d.kind) 111 _ (by omega)) ?_
       rintro v83 w18 ⟨rfl, c18⟩
       have hz18 := c18.size
       refine L_g (r_pf rfl rfl) (L_r (r_pt rfl rfl) (L_r (r_mb rfl) ?_))
       refine L_caseb (d := 86) rfl (fun h86 => ?_) (fun h86 => ?_)
       ·
        refine L_g (r_fieldb Tryz.underlying29 rfl (show _ = some 1 from rfl) rfl rfl (show _ = 9 from rfl)) ?_
        refine L_g (r_lb rfl rfl) ?_
        refine L_g (r_eqls rfl rfl) ?_
        refine L_g (r_mb rfl) ?_
        refine L_case (d := 90) rfl (fun h90 => ?_) (fun h90 => ?_)
        ·
         refine L_ps (L_ps (L_ps ?_))
         refine L_pu ?_
         refine L_pu ?_
         refine L_pu ?_
         refine L_pu (L_ps ?_)
         refine L_g (r_pt rfl rfl) (L_r (r_pt rfl rfl) (L_r (r_ab rfl) (L_nil ?_)))
         refine ⟨⟨fx2, fx2, trivial⟩, (dec_t (by clear hall hpa hargs; unfold ck3; first | (simp_all [hasC]; done) | (simp_all [hasC]; omega))), ?_⟩
         exact ⟨Bk.au, Ch.au⟩
        ·
         refine L_g (r_ms rfl) ?_
         refine L_call (.yes 14 false rfl rfl) rfl rfl (r_call Tryz.func29 rfl rfl rfl (by rfl)) (rhasc_walk (hasF x.d.kind) 98 _ (by omega)) ?_
         rintro v92 w19 ⟨rfl, c19⟩
         have hz19 := c19.size
         refine L_g (r_mb rfl) ?_
         refine L_caseb (d := 93) rfl (fun h93 => ?_) (fun h93 => ?_)
         ·
          refine L_g (r_fieldb Tryz.underlying29 rfl (show _ = some 1 from rfl) rfl rfl (show _ = 9 from rfl)) ?_
          refine L_g (r_lb rfl rfl) ?_
          refine L_g (r_lens Tryz.underlying9 rfl) ?_
          refine L_g (r_leq rfl rfl) ?_
          refine L_g (r_pt rfl rfl) ?_
          refine L_g (r_pf rfl rfl) (L_r (r_pt rfl rfl) (L_r (r_ab rfl) (L_nil ?_)))
          refine ⟨⟨fx2, fx2, trivial⟩, (dec_i (by clear hall hpa hargs; unfold ck3; first | (simp_all [hasC]; done) | (simp_all [hasC]; omega))), ?_⟩
          exact ⟨Bk.au, Ch.au⟩
         ·
          refine L_ps (L_ps (L_ps (L_ps ?_)))
          refine L_g (r_pf rfl rfl) ?_
          refine L_g (r_pf rfl rfl) (L_r (r_pt rfl rfl) (L_r (r_ab rfl) (L_nil ?_)))
          refine ⟨⟨fx2, fx2, trivial⟩, (dec_f (by clear hall hpa hargs; unfold ck3; first | (simp_all [hasC]; done) | (simp_all [hasC]; omega))), ?_⟩
          exact ⟨Bk.au, Ch.au⟩
       ·
        refine L_ps (L_ps (L_ps (L_ps ?_)))
        refine L_pu ?_
        refine L_pu ?_
        refine L_pu ?_
        refine L_pu ?_
        refine L_pu ?_
        refine L_pu ?_
        refine L_pu ?_
        refine L_pu (L_ps (L_r (r_pf rfl rfl) (L_r (r_ab rfl) (L_nil ?_))))
        refine ⟨⟨fx2, fx2, trivial⟩, (dec_f (by clear hall hpa hargs; unfold ck3; first | (simp_all [hasC]; done) | (simp_all [hasC]; omega))), ?_⟩
        exact ⟨Bk.au, Ch.au⟩
     ·
      refine L_ps (L_ps (L_ps (L_ps ?_)))
      refine L_pu ?_
      refine L_pu (L_ps (L_r (r_pf rfl rfl) (L_r (r_mb rfl) (L_ps (L_ps (L_ps (L_ps ?_)))))))
      refine L_pu ?_
      refine L_pu ?_
      refine L_pu ?_
      refine L_pu ?_
      refine L_pu ?_
      refine L_pu ?_
      refine L_pu ?_
      refine L_pu (L_ps (L_r (r_pf rfl rfl) (L_r (r_ab rfl) (L_nil ?_))))
      refine ⟨⟨fx2, fx2, trivial⟩, (dec_f (by clear hall hpa hargs; unfold ck3; first | (simp_all [hasC]; done) | (simp_all [hasC]; omega))), ?_⟩
      exact ⟨Bk.au, Ch.au⟩
    rintro gcr11 w20 ⟨hf5, hCr11⟩
    refine W_as 5 hf5 rfl ?_
    clear hf5
    obtain ⟨hk11, hnw11⟩ := hCr11
    have hz11 := hnw11.size
    refine W_seq (W_seq (W_region (L_r (r_ms rfl) ?_)))
    refine L_call (.plain rfl) rfl rfl (r_call Tryz.func29 rfl rfl rfl (by rfl)) (rhasc_walk (hasF x.d.kind) 109 _ (by omega)) ?_
    rintro v102 w21 ⟨rfl, c21⟩
    have hz21 := c21.size
    refine L_nil ?_
    refine W_endF [1, 3] (fun f W => f 5 = .bool (decide (ck4 x.d)) ∧ (Bk W b1 x.row 29 ∧ Nw w0 W)) ?_ ?_
    ·
     refine W_bool rfl (fun h102 => ?_) (fun h102 => ?_)
     ·
      refine W_region (L_r (r_mb rfl) (L_r (r_mb rfl) ?_))
      refine L_case (d := 104) rfl (fun h104 => ?_) (fun h104 => ?_)
      ·
       refine L_g (r_fieldb Tryz.underlying29 rfl (show _ = some 1 from rfl) rfl rfl (show _ = 3 from rfl)) ?_
       refine L_g (r_lb rfl rfl) ?_
       refine L_call (.yes 1 true rfl rfl) rfl rfl (r_call Tryz.func32 rfl rfl rfl (by rfl)) (rmem_use x.d.method _ hm) ?_
       rintro v107 w22 ⟨rfl, c22⟩
       have hz22 := c22.size
       refine L_r (r_pt rfl rfl) (L_r (r_ab rfl) (L_nil ?_))
       refine ⟨⟨fx2, fx2, trivial⟩, (dec_b (by clear hall hpa hargs; unfold ck4; simp_all [hasC])), ?_⟩
       exact ⟨Bk.au, Ch.au⟩
      ·
       refine L_ps (L_ps (L_ps (L_r (r_pf rfl rfl) (L_r (r_ab rfl) (L_nil ?_)))))
       refine ⟨⟨fx2, fx2, trivial⟩, (dec_f (by clear hall hpa hargs; unfold ck4; simp_all [hasC])), ?_⟩
       exact ⟨Bk.au, Ch.au⟩
     ·
      refine W_region (L_r (r_mb rfl) (L_r (r_mb rfl) ?_))
      refine L_case (d := 110) rfl (fun h110 => ?_) (fun h110 => ?_)
      ·
       refine L_g (r_fieldb Tryz.underlying29 rfl (show _ = some 1 from rfl) rfl rfl (show _ = 3 from rfl)) ?_
       refine L_g (r_lb rfl rfl) ?_
       refine L_g (r_eqls rfl rfl) (L_r (r_pt rfl rfl) (L_r (r_ab rfl) (L_nil ?_)))
       refine ⟨⟨fx2, fx2, trivial⟩, (dec_i (by clear hall hpa hargs; unfold ck4; simp_all [hasC])), ?_⟩
       exact ⟨Bk.au, Ch.au⟩
      ·
       refine L_ps (L_ps (L_ps (L_r (r_pf rfl rfl) (L_r (r_ab rfl) (L_nil ?_)))))
       refine ⟨⟨fx2, fx2, trivial⟩, (dec_f (by clear hall hpa hargs; unfold ck4; simp_all [hasC])), ?_⟩
       exact ⟨Bk.au, Ch.au⟩
    rintro gct102 w23 ⟨hf5, hCt102⟩
    refine W_as 5 hf5 rfl ?_
    clear hf5
    obtain ⟨hk12, hnw12⟩ := hCt102
    have hz12 := hnw12.size
    refine W_seq (W_seq (W_region (L_r (r_ms rfl) ?_)))
    refine L_call (.plain rfl) rfl rfl (r_call Tryz.func29 rfl rfl rfl (by rfl)) (rhasc_walk (hasF x.d.kind) 99 _ (by omega)) ?_
    rintro v116 w24 ⟨rfl, c24⟩
    have hz24 := c24.size
    refine L_nil ?_
    refine W_bool rfl (fun h116 => ?_) (fun h116 => ?_)
    ·
     refine W_seq (W_region (L_r (r_mb rfl) (L_r (r_mb rfl) ?_)))
     refine L_case (d := 118) rfl (fun h118 => ?_) (fun h118 => ?_)
     ·
      refine L_g (r_fieldb Tryz.underlying29 rfl (show _ = some 1 from rfl) rfl rfl (show _ = 8 from rfl)) ?_
      refine L_g (r_lb rfl rfl) ?_
      refine L_call (.yes 1 true rfl rfl) rfl rfl (r_call Tryz.func33 rfl rfl rfl (by rfl)) (rclass_walk x.d.cls _ hc) ?_
      rintro v121 w25 ⟨rfl, c25⟩
      have hz25 := c25.size
      refine L_r (r_pt rfl rfl) (L_r (r_ab rfl) (L_nil (W_ret ?_)))
      refine ret1 (v := .bool _) rfl rfl ?_
      refine ⟨_, rfl, ?_, Ch.au⟩
      rw [hall]
      first
      | exact ⟨fun h => absurd h (by decide), fun h => absurd h27 h.1⟩
      | exact ⟨fun h => absurd h (by decide), fun h => absurd (h.2.1 xv hmem) (by simpa using h41)⟩
      | (have h0 : ¬ ck0 x.d := h27
         clear hall hpa h27
         rw [show (¬ ck0 x.d ∧ (∀ v ∈ x.d.args, argP v) ∧ ck5 x.d) ↔ ck5 x.d from ⟨fun h => h.2.2, fun h => ⟨h0, hargs, h⟩⟩]
         clear hargs h0
         unfold ck5
         simp_all [hasC])
     ·
      refine L_ps (L_ps (L_ps (L_r (r_pf rfl rfl) (L_r (r_ab rfl) (L_nil (W_ret ?_))))))
      refine ret1 (v := .bool _) rfl rfl ?_
      refine ⟨_, rfl, ?_, Ch.au⟩
      rw [hall]
      first
      | exact ⟨fun h => absurd h (by decide), fun h => absurd h27 h.1⟩
      | exact ⟨fun h => absurd h (by decide), fun h => absurd (h.2.1 xv hmem) (by simpa using h41)⟩
      | (have h0 : ¬ ck0 x.d := h27
         clear hall hpa h27
         rw [show (¬ ck0 x.d ∧ (∀ v ∈ x.d.args, argP v) ∧ ck5 x.d) ↔ ck5 x.d from ⟨fun h => h.2.2, fun h => ⟨h0, hargs, h⟩⟩]
         clear hargs h0
         unfold ck5
         simp_all [hasC])
    ·
     refine W_skip (W_seq (W_region (L_r (r_mb rfl) (L_r (r_mb rfl) ?_))))
     refine L_case (d := 124) rfl (fun h124 => ?_) (fun h124 => ?_)
     ·
      refine L_g (r_fieldb Tryz.underlying29 rfl (show _ = some 1 from rfl) rfl rfl (show _ = 8 from rfl)) ?_
      refine L_g (r_lb rfl rfl) ?_
      refine L_g (r_eqls rfl rfl) (L_r (r_pt rfl rfl) (L_r (r_ab rfl) (L_nil (W_ret ?_))))
      refine ret1 (v := .bool _) rfl rfl ?_
      refine ⟨_, rfl, ?_, Ch.au⟩
      rw [hall]
      first
      | exact ⟨fun h => absurd h (by decide), fun h => absurd h27 h.1⟩
      | exact ⟨fun h => absurd h (by decide), fun h => absurd (h.2.1 xv hmem) (by simpa using h41)⟩
      | (have h0 : ¬ ck0 x.d := h27
         clear hall hpa h27
         rw [show (¬ ck0 x.d ∧ (∀ v ∈ x.d.args, argP v) ∧ ck5 x.d) ↔ ck5 x.d from ⟨fun h => h.2.2, fun h => ⟨h0, hargs, h⟩⟩]
         clear hargs h0
         unfold ck5
         simp_all [hasC])
     ·
      refine L_ps (L_ps (L_ps (L_r (r_pf rfl rfl) (L_r (r_ab rfl) (L_nil (W_ret ?_))))))
      refine ret1 (v := .bool _) rfl rfl ?_
      refine ⟨_, rfl, ?_, Ch.au⟩
      rw [hall]
      first
      | exact ⟨fun h => absurd h (by decide), fun h => absurd h27 h.1⟩
      | exact ⟨fun h => absurd h (by decide), fun h => absurd (h.2.1 xv hmem) (by simpa using h41)⟩
      | (have h0 : ¬ ck0 x.d := h27
         clear hall hpa h27
         rw [show (¬ ck0 x.d ∧ (∀ v ∈ x.d.args, argP v) ∧ ck5 x.d) ↔ ck5 x.d from ⟨fun h => h.2.2, fun h => ⟨h0, hargs, h⟩⟩]
         clear hargs h0
         unfold ck5
         simp_all [hasC])
end Go.Proofs.YtgmeojpekdekeaaGreatDoor

namespace Go.Proofs.YtgmeojpekdekeaaGreatDoor
open Go Go.RowKit
set_option linter.unusedVariables false
set_option linter.unusedSimpArgs false
set_option maxRecDepth 100000
/-- A deed may be asked by the document. -/
structure askR (w : World) (x : DD) : Prop where
  ok : x.ok w
  ran : ranD x.d
  len : x.d.args.length ≤ 1000000000000000
  met : x.d.method.size ≤ 1000000000000000
  cls : x.d.cls.size ≤ 1000000000000000
theorem askR.nw {w w' : World} {x : DD} (h : askR w x) (c : Nw w w') : askR w' x := ⟨h.ok.nw c, h.ran, h.len, h.met, h.cls⟩
set_option maxHeartbeats 2000000 in
theorem rshow_walk (v : Value) (l : List DD) (w0 : World) (hv : Sl w0 v 10 l.length (cellsDD l)) (hl : l.length ≤ 1000000) (hx : ∀ x ∈ l, askR w0 x) : Does Tryz.prog 13 #[v] w0 (fun r w' => (((∀ x ∈ l, chkD x.d) ∧ r = .tuple #[.string (sb (shwB l)), .bool true]) ∨ ((¬ ∀ x ∈ l, chkD x.d) ∧ r = .tuple #[.string mtB, .bool false])) ∧ Nw w0 w') := by
  refine fn_of (n := 26) (args := [v]) Tryz.func13 rfl rfl rfl (W_seq (W_region (L_r (r_as rfl) (L_r (r_ab rfl) (L_nil (W_seq (W_region (L_r (r_as rfl) ?_))))))))
  refine L_nil (W_seq (W_seq (W_region (L_r (r_ai rfl) (L_nil (W_block ?_))))))
  refine W_loopF [0] (fun mz_ f W => ∃ (i : Nat), f 5 = .int .i64 i ∧ f 4 = .string (sb (shwB (l.take i))) ∧ (i ≤ l.length ∧ (∀ j (h : j < l.length), j < i → chkD l[j].d) ∧ Nw w0 W) ∧ mz_ = l.length - i) ?_ ?_
  ·
   refine ⟨_, 0, rfl, rfl, ?_, rfl⟩
   exact ⟨by omega, fun j h hj => absurd hj (by omega), Ch.au⟩
  rintro m0 g0 w1 ⟨i, hf5, hf4, hR0, rfl⟩
  refine W_as 5 hf5 rfl ?_
  refine W_as 4 hf4 rfl ?_
  clear hf5 hf4
  obtain ⟨hi, hall, hnw⟩ := hR0
  have hz := hnw.size
  refine W_seq (W_seq (W_region (L_r (r_mi rfl) (L_r (r_mv) ?_))))
  refine L_r (r_lenSl Tryz.underlying22 (by conv => lhs; whnf) Sl.au) (L_r (r_lss rfl rfl) (L_nil ?_))
  refine W_if rfl (fun h9 => ?_) (fun h9 => ?_)
  ·
   have hil : i < l.length := by omega
   have hrow := cellsDD_row l i hil
   have hmem := List.getElem_mem hil
   obtain ⟨x, hxe⟩ : ∃ x, x = l[i] := ⟨_, rfl⟩
   rw [← hxe] at hrow hmem
   have hax := hx x hmem
   have hlen := shwB_len (l.take i) fun y hy => by
     obtain ⟨j, hj, rfl⟩ := List.getElem_of_mem hy
     rw [List.getElem_take]
     rw [List.length_take] at hj
     exact ⟨hall j (by omega) (by omega), (hx _ (List.getElem_mem _)).ran⟩
   rw [List.length_take] at hlen
   have hss := sb_size (shwB (l.take i))
   refine W_skip (W_seq (W_block (W_seq (W_seq (W_region (L_r (r_mv) (L_r (r_mi rfl) ?_)))))))
   refine L_r (r_ix Tryz.underlying22 (show _ = some 10 from rfl) (by conv => lhs; whnf) rfl Sl.au) ?_
   refine L_r (r_loadSlrow (us := [.string x.d.kind, .int .i64 x.d.side, .int .u64 (x.d.obj : Int), .string x.d.method, x.va, .int .i64 x.d.n, .int .i64 x.d.at', .int .i64 x.d.ref, .string x.d.cls, .string x.d.bytes]) Tryz.underlying29 rfl rfl rfl rfl Sl.au (by exact hrow)) ?_
   refine L_call (.plain rfl) rfl rfl (r_call Tryz.func11 rfl rfl rfl (by rfl)) (rcheck_walk x _ (hax.ok.nw Ch.au) hax.len hax.met hax.cls) ?_
   rintro v16 w2 ⟨bc, rfl, hbc, c2⟩
   have hz2 := c2.size
   refine L_r (r_not rfl) (L_nil ?_)
   refine W_bool rfl (fun h17 => ?_) (fun h17 => ?_)
   ·
    refine W_seq (W_region (L_r (r_as rfl) (L_r (r_ab rfl) (L_nil (W_ret ?_)))))
    refine ret2 (u := .string _) (v := .bool _) rfl rfl rfl ?_
    first
    | (refine ⟨.inl ⟨fun y hy => ?_, ?_⟩, Ch.au⟩
       · obtain ⟨j, hj, rfl⟩ := List.getElem_of_mem hy
         exact hall j hj (by omega)
       · rw [List.take_of_length_le (by omega)])
    | exact ⟨.inr ⟨fun h => absurd (hbc.2 (h x hmem)) (by simpa using h17), rfl⟩, Ch.au⟩
   ·
    have hck : chkD x.d := hbc.1 (by simpa using h17)
    have hln := linD_len hck hax.ran
    have hls := sb_size (linD x.d)
    refine W_skip (W_region (L_r (r_ms rfl) (L_r (r_mv) (L_r (r_mi rfl) ?_))))
    refine L_r (r_ix Tryz.underlying22 (show _ = some 10 from rfl) (by conv => lhs; whnf) rfl Sl.au) ?_
    refine L_r (r_loadSlrow (us := [.string x.d.kind, .int .i64 x.d.side, .int .u64 (x.d.obj : Int), .string x.d.method, x.va, .int .i64 x.d.n, .int .i64 x.d.at', .int .i64 x.d.ref, .string x.d.cls, .string x.d.bytes]) Tryz.underlying29 rfl rfl rfl rfl Sl.au (by exact hrow)) ?_
    refine L_call (.plain rfl) rfl rfl (r_call Tryz.func35 rfl rfl rfl (by rfl)) (rline_walk x _ (hax.ok.nw Ch.au) hck hax.ran) ?_
    rintro v23 w3 ⟨rfl, c3⟩
    have hz3 := c3.size
    refine L_r (r_adds rfl rfl (by first | omega | (simp only [ByteArray.size_append]; omega))) (L_r (r_as rfl) (L_nil (W_region (L_r (r_mi rfl) ?_))))
    refine L_r (r_add rfl rfl (by first | exact wr_i64 (by omega) | rfl)) (L_r (r_ai rfl) (L_nil ?_))
    refine ⟨⟨fx2, trivial⟩, _, ?_, i + 1, rfl, (by refine congrArg Value.string ?_; rw [shwB_take hil, ← hxe, sb_append]), ?_, rfl⟩
    · omega
    refine ⟨by omega, fun j h hj => ?_, Ch.au⟩
    rcases Nat.lt_or_ge j i with k | k
    · exact hall j h k
    ·
     have e : j = i := by omega
     subst e
     rw [← hxe]; exact hck
  ·
   refine W_exit ?_
   repeat (first | refine blk_hit ?_ | refine blk_miss rfl ?_)
   refine W_seq (W_region (L_r (r_ms rfl) (L_r (r_as rfl) (L_r (r_ab rfl) (L_nil (W_ret ?_))))))
   refine ret2 (u := .string _) (v := .bool _) rfl rfl rfl ?_
   first
   | (refine ⟨.inl ⟨fun y hy => ?_, ?_⟩, Ch.au⟩
      · obtain ⟨j, hj, rfl⟩ := List.getElem_of_mem hy
        exact hall j hj (by omega)
      · rw [List.take_of_length_le (by omega)])
   | exact ⟨.inr ⟨fun h => absurd (hbc.2 (h x hmem)) (by simpa using h17), rfl⟩, Ch.au⟩
def hdE (a b : Dd) : Prop := a.kind = b.kind ∧ a.side = b.side ∧ a.obj = b.obj ∧ a.method = b.method ∧ a.n = b.n ∧ a.at' = b.at' ∧ a.ref = b.ref ∧ a.cls = b.cls ∧ a.bytes = b.bytes ∧ a.args.length = b.args.length
instance (a b : Dd) : Decidable (hdE a b) := inferInstanceAs (Decidable (_ ∧ _))
theorem hdE_eq {a b : Dd} (h : hdE a b) (k : a.args = b.args) : a = b := by
  obtain ⟨h1, h2, h3, h4, h5, h6, h7, h8, h9, _⟩ := h
  cases a; cases b
  simp only at h1 h2 h3 h4 h5 h6 h7 h8 h9 k
  subst h1 h2 h3 h4 h5 h6 h7 h8 h9 k
  rfl
set_option maxHeartbeats 4000000 in
theorem rsame_walk (u v : Value) (l m : List DD) (w0 : World) (hu : Sl w0 u 10 l.length (cellsDD l)) (hv : Sl w0 v 10 m.length (cellsDD m)) (hl : l.length ≤ 1000000) (hm : m.length ≤ 1000000) (hx : ∀ x ∈ l, x.ok w0 ∧ x.d.args.length ≤ 1000000000000000) (hy : ∀ x ∈ m, x.ok w0 ∧ x.d.args.length ≤ 1000000000000000) : Does Tryz.prog 15 #[u, v] w0 (fun r w' => ∃ b : Bool, r = .bool b ∧ (b = true ↔ l.map DD.d = m.map DD.d) ∧ Nw w0 w') := by
  refine fn_of (n := 116) (args := [u, v]) Tryz.func15 rfl rfl rfl (W_seq (W_region (L_r (r_ab rfl) (L_nil (W_seq (W_seq (W_region (L_r (r_mv) ?_))))))))
  refine L_r (r_lenSl Tryz.underlying22 (by conv => lhs; whnf) Sl.au) (L_r (r_mv) ?_)
  refine L_r (r_lenSl Tryz.underlying22 (by conv => lhs; whnf) Sl.au) (L_r (r_neq rfl rfl) (L_nil ?_))
  refine W_if rfl (fun h13 => ?_) (fun h13 => ?_)
  ·
   refine W_seq (W_region (L_r (r_ab rfl) (L_nil (W_ret ?_))))
   refine ret1 (v := .bool _) rfl rfl ?_
   first
   | exact ⟨false, rfl, ⟨fun h => absurd h (by decide), fun h => absurd (congrArg List.length h) (by rw [List.length_map, List.length_map]; omega)⟩, Ch.au⟩
   | (refine ⟨true, rfl, ⟨fun _ => List.ext_getElem (by rw [List.length_map, List.length_map]; omega) fun j h1 h2 => ?_, fun _ => rfl⟩, Ch.au⟩
      rw [List.getElem_map, List.getElem_map]
      exact hall j (by simpa using h1) (by simpa using h2) (by simp at h1; omega))
   | (refine ⟨false, rfl, ⟨fun h => absurd h (by decide), fun h => ?_⟩, Ch.au⟩
      have hd : x.d = y.d := by
        have e1 : (l.map DD.d)[i]'(by simpa using hil) = (m.map DD.d)[i]'(by simpa using him) := by simp only [h]
        rw [List.getElem_map, List.getElem_map] at e1
        rw [hxe, hye]; exact e1
      first
      | exact absurd (show hdE x.d y.d from by rw [hd]; exact ⟨rfl, rfl, rfl, rfl, rfl, rfl, rfl, rfl, rfl, rfl⟩) h97
      | (have hpq : p = q' := by rw [hpe, hqe]; simp only [hd]
         subst hpq
         first | exact absurd ⟨rfl, rfl, rfl, rfl⟩ h115 | simp at h115))
  ·
   refine W_skip (W_seq (W_seq (W_region (L_r (r_ai rfl) (L_nil (W_block ?_))))))
   refine W_loopF [0, 1] (fun mz_ f W => ∃ (i : Nat), f 5 = .int .i64 i ∧ (i ≤ l.length ∧ (∀ j (h1 : j < l.length) (h2 : j < m.length), j < i → l[j].d = m[j].d) ∧ Nw w0 W) ∧ mz_ = l.length - i) ?_ ?_
   ·
    refine ⟨_, 0, rfl, ?_, rfl⟩
    exact ⟨by omega, fun j h1 h2 hj => absurd hj (by omega), Ch.au⟩
   rintro m0 g0 w1 ⟨i, hf5, hR0, rfl⟩
   refine W_as 5 hf5 rfl ?_
   clear hf5
   obtain ⟨hi, hall, hnw⟩ := hR0
   have hz := hnw.size
   refine W_seq (W_seq (W_region (L_r (r_mi rfl) (L_r (r_mv) ?_))))
   refine L_r (r_lenSl Tryz.underlying22 (by conv => lhs; whnf) Sl.au) (L_r (r_lss rfl rfl) (L_nil ?_))
   refine W_if rfl (fun h17 => ?_) (fun h17 => ?_)
   ·
    have hil : i < l.length := by omega
    have him : i < m.length := by omega
    have hrx := cellsDD_row l i hil
    have hry := cellsDD_row m i him
    have hmx := List.getElem_mem hil
    have hmy := List.getElem_mem him
    obtain ⟨x, hxe⟩ : ∃ x, x = l[i] := ⟨_, rfl⟩
    obtain ⟨y, hye⟩ : ∃ y, y = m[i] := ⟨_, rfl⟩
    rw [← hxe] at hrx hmx
    rw [← hye] at hry hmy
    obtain ⟨hxo, hxl⟩ := hx x hmx
    obtain ⟨hyo, hyl⟩ := hy y hmy
    have hxs : Sl w0 x.va 4 x.d.args.length (cellsVa x.d.args) := hxo
    have hys : Sl w0 y.va 4 y.d.args.length (cellsVa y.d.args) := hyo
    have hox := sl_one hxo
    have hoy := sl_one hyo
    refine W_skip (W_seq (W_block (W_seq ?_)))
    refine W_draw (fun W => Sl W u 10 l.length (cellsDD l) ∧ Sl W v 10 m.length (cellsDD m)) 11 (m := 12) (by kernel_rfl) rfl (fun w2 c2 hs2 => ?_)
    refine held (by exact ⟨Sl.au, Sl.au⟩) (fun hS => ?_)
    refine D_t 0 rfl (fun W hW => r_mv) ?_
    refine D_t 1 rfl (fun W hW => r_mi rfl) ?_
    refine D_t 2 rfl (fun W hW => r_ix Tryz.underlying22 (show _ = some 10 from rfl) (by conv => lhs; whnf) rfl (by first | exact hW.1 | exact hW.2)) ?_
    refine D_t 3 rfl (fun W hW => r_loadSlrow (us := [.string x.d.kind, .int .i64 x.d.side, .int .u64 (x.d.obj : Int), .string x.d.method, x.va, .int .i64 x.d.n, .int .i64 x.d.at', .int .i64 x.d.ref, .string x.d.cls, .string x.d.bytes]) Tryz.underlying29 rfl rfl rfl rfl (by first | exact hW.1 | exact hW.2) (by exact hrx)) ?_
    refine D_t 4 rfl (fun W hW => r_mv) ?_
    refine D_t 5 rfl (fun W hW => r_mi rfl) ?_
    refine D_t 6 rfl (fun W hW => r_ix Tryz.underlying22 (show _ = some 10 from rfl) (by conv => lhs; whnf) rfl (by first | exact hW.1 | exact hW.2)) ?_
    refine D_t 7 rfl (fun W hW => r_loadSlrow (us := [.string y.d.kind, .int .i64 y.d.side, .int .u64 (y.d.obj : Int), .string y.d.method, y.va, .int .i64 y.d.n, .int .i64 y.d.at', .int .i64 y.d.ref, .string y.d.cls, .string y.d.bytes]) Tryz.underlying29 rfl rfl rfl rfl (by first | exact hW.1 | exact hW.2) (by exact hry)) ?_
    refine D_ev2 8 9 (by kernel_rfl) rfl rfl ?_ ?_
    ·
     refine L_new (.plain rfl) rfl rfl (r_alloca rfl) (fun w3 b6 hb6 eb3 hs3 c3 => (L_nil ?_))
     refine heldK (by exact ⟨Sl.au, Sl.au⟩) (fun hS => ?_)
     refine D_ev 9 (by kernel_rfl) rfl ?_
     refine L_new (.plain rfl) rfl rfl (r_alloca rfl) (fun w4 b7 hb7 eb4 hs4 c4 => (L_nil ?_))
     refine heldK (by exact ⟨Sl.au, Sl.au⟩) (fun hS => ?_)
     refine D_ev 10 (by kernel_rfl) rfl ?_
     refine L_storerow (.plain rfl) rfl rfl Bk.au (by first | rfl | (simp; done) | assumption) (by first | rfl | assumption) (by first | exact row_one x hox | exact row_one y hoy) (fun w5 hb5 hs5 c5 => (L_nil ?_))
     refine heldK (by exact ⟨Sl.au, Sl.au⟩) (fun hS => ?_)
     refine D_ev 11 (by kernel_rfl) rfl ?_
     refine L_storerow (.plain rfl) rfl rfl Bk.au (by first | rfl | (simp; done) | assumption) (by first | rfl | assumption) (by first | exact row_one x hox | exact row_one y hoy) (fun w6 hb6 hs6 c6 => (L_nil ?_))
     refine heldL ?_
     refine D_done (by kernel_rfl) (W_seq ?_)
     refine W_cutF [0, 1, 5, 6, 7] (fun f W => f 97 = .bool (decide (¬ hdE x.d y.d)) ∧ (Bk W b6 x.row 29 ∧ Bk W b7 y.row 29 ∧ Nw w0 W)) ?_ ?_
     ·
      refine W_region ?_
      refine L_r (r_fieldb Tryz.underlying29 rfl (show _ = some 1 from rfl) rfl rfl (show _ = 0 from rfl)) (L_r (r_lb rfl rfl) ?_)
      refine L_r (r_fieldb Tryz.underlying29 rfl (show _ = some 1 from rfl) rfl rfl (show _ = 0 from rfl)) (L_r (r_lb rfl rfl) (L_r (r_neqs rfl rfl) (L_r (r_mb rfl) ?_)))
      refine L_case (d := 33) rfl (fun h33 => ?_) (fun h33 => ?_)
      ·
       refine L_ps (L_ps (L_ps (L_ps (L_ps (L_r (r_pt rfl rfl) (L_r (r_mb rfl) (L_ps (L_ps ?_))))))))
       refine L_ps (L_ps (L_ps (L_r (r_pt rfl rfl) (L_r (r_mb rfl) (L_ps (L_ps (L_ps (L_ps ?_))))))))
       refine L_ps (L_r (r_pt rfl rfl) (L_r (r_mb rfl) (L_ps (L_ps (L_ps (L_ps (L_ps (L_r (r_pt rfl rfl) ?_))))))))
       refine L_r (r_mb rfl) (L_ps (L_ps (L_ps (L_ps (L_ps (L_r (r_pt rfl rfl) (L_r (r_mb rfl) (L_ps ?_))))))))
       refine L_ps (L_ps (L_ps (L_ps (L_r (r_pt rfl rfl) (L_r (r_mb rfl) (L_ps (L_ps (L_ps ?_))))))))
       refine L_ps (L_ps (L_r (r_pt rfl rfl) (L_r (r_mb rfl) (L_ps (L_ps (L_ps (L_ps (L_ps ?_))))))))
       refine L_r (r_pt rfl rfl) (L_r (r_mb rfl) (L_ps (L_ps (L_ps (L_ps (L_ps (L_ps (L_ps ?_))))))))
       refine L_r (r_pt rfl rfl) (L_nil ?_)
       refine ⟨⟨fx2, fx2, fx2, fx2, fx2, trivial⟩, (dec_t (by clear hall; unfold hdE; first | (simp_all; done) | (simp_all; omega))), ?_⟩
       exact ⟨Bk.au, Bk.au, Ch.au⟩
      ·
       refine L_g (r_fieldb Tryz.underlying29 rfl (show _ = some 1 from rfl) rfl rfl (show _ = 1 from rfl)) ?_
       refine L_g (r_lb rfl rfl) ?_
       refine L_g (r_fieldb Tryz.underlying29 rfl (show _ = some 1 from rfl) rfl rfl (show _ = 1 from rfl)) ?_
       refine L_g (r_lb rfl rfl) ?_
       refine L_g (r_neq rfl rfl) (L_r (r_pf rfl rfl) (L_r (r_mb rfl) ?_))
       refine L_case (d := 40) rfl (fun h40 => ?_) (fun h40 => ?_)
       ·
        refine L_ps (L_ps (L_ps (L_ps (L_ps (L_r (r_pt rfl rfl) (L_r (r_mb rfl) (L_ps (L_ps ?_))))))))
        refine L_ps (L_ps (L_ps (L_r (r_pt rfl rfl) (L_r (r_mb rfl) (L_ps (L_ps (L_ps (L_ps ?_))))))))
        refine L_ps (L_r (r_pt rfl rfl) (L_r (r_mb rfl) (L_ps (L_ps (L_ps (L_ps (L_ps (L_r (r_pt rfl rfl) ?_))))))))
        refine L_r (r_mb rfl) (L_ps (L_ps (L_ps (L_ps (L_ps (L_r (r_pt rfl rfl) (L_r (r_mb rfl) (L_ps ?_))))))))
        refine L_ps (L_ps (L_ps (L_ps (L_r (r_pt rfl rfl) (L_r (r_mb rfl) (L_ps (L_ps (L_ps ?_))))))))
        refine L_ps (L_ps (L_r (r_pt rfl rfl) (L_r (r_mb rfl) (L_ps (L_ps (L_ps (L_ps (L_ps ?_))))))))
        refine L_ps (L_ps (L_r (r_pt rfl rfl) (L_nil ?_)))
        refine ⟨⟨fx2, fx2, fx2, fx2, fx2, trivial⟩, (dec_t (by clear hall; unfold hdE; first | (simp_all; done) | (simp_all; omega))), ?_⟩
        exact ⟨Bk.au, Bk.au, Ch.au⟩
       ·
        refine L_g (r_fieldb Tryz.underlying29 rfl (show _ = some 1 from rfl) rfl rfl (show _ = 2 from rfl)) ?_
        refine L_g (r_lb rfl rfl) ?_
        refine L_g (r_fieldb Tryz.underlying29 rfl (show _ = some 1 from rfl) rfl rfl (show _ = 2 from rfl)) ?_
        refine L_g (r_lb rfl rfl) ?_
        refine L_g (r_neq rfl rfl) (L_r (r_pf rfl rfl) (L_r (r_mb rfl) ?_))
        refine L_case (d := 47) rfl (fun h47 => ?_) (fun h47 => ?_)
        ·
         refine L_ps (L_ps (L_ps (L_ps (L_ps (L_r (r_pt rfl rfl) (L_r (r_mb rfl) (L_ps (L_ps ?_))))))))
         refine L_ps (L_ps (L_ps (L_r (r_pt rfl rfl) (L_r (r_mb rfl) (L_ps (L_ps (L_ps (L_ps ?_))))))))
         refine L_ps (L_r (r_pt rfl rfl) (L_r (r_mb rfl) (L_ps (L_ps (L_ps (L_ps (L_ps (L_r (r_pt rfl rfl) ?_))))))))
         refine L_r (r_mb rfl) (L_ps (L_ps (L_ps (L_ps (L_ps (L_r (r_pt rfl rfl) (L_r (r_mb rfl) (L_ps ?_))))))))
         refine L_ps (L_ps (L_ps (L_ps (L_r (r_pt rfl rfl) (L_r (r_mb rfl) (L_ps (L_ps (L_ps ?_))))))))
         refine L_ps (L_ps (L_ps (L_ps (L_r (r_pt rfl rfl) (L_nil ?_)))))
         refine ⟨⟨fx2, fx2, fx2, fx2, fx2, trivial⟩, (dec_t (by clear hall; unfold hdE; first | (simp_all; done) | (simp_all; omega))), ?_⟩
         exact ⟨Bk.au, Bk.au, Ch.au⟩
        ·
         refine L_g (r_fieldb Tryz.underlying29 rfl (show _ = some 1 from rfl) rfl rfl (show _ = 3 from rfl)) ?_
         refine L_g (r_lb rfl rfl) ?_
         refine L_g (r_fieldb Tryz.underlying29 rfl (show _ = some 1 from rfl) rfl rfl (show _ = 3 from rfl)) ?_
         refine L_g (r_lb rfl rfl) ?_
         refine L_g (r_neqs rfl rfl) (L_r (r_pf rfl rfl) (L_r (r_mb rfl) ?_))
         refine L_case (d := 54) rfl (fun h54 => ?_) (fun h54 => ?_)
         ·
          refine L_ps (L_ps (L_ps (L_ps (L_ps (L_r (r_pt rfl rfl) (L_r (r_mb rfl) (L_ps (L_ps ?_))))))))
          refine L_ps (L_ps (L_ps (L_r (r_pt rfl rfl) (L_r (r_mb rfl) (L_ps (L_ps (L_ps (L_ps ?_))))))))
          refine L_ps (L_r (r_pt rfl rfl) (L_r (r_mb rfl) (L_ps (L_ps (L_ps (L_ps (L_ps (L_r (r_pt rfl rfl) ?_))))))))
          refine L_r (r_mb rfl) (L_ps (L_ps (L_ps (L_ps (L_ps (L_r (r_pt rfl rfl) (L_r (r_mb rfl) (L_ps ?_))))))))
          refine L_ps (L_ps (L_ps (L_ps (L_ps (L_ps (L_r (r_pt rfl rfl) (L_nil ?_)))))))
          refine ⟨⟨fx2, fx2, fx2, fx2, fx2, trivial⟩, (dec_t (by clear hall; unfold hdE; first | (simp_all; done) | (simp_all; omega))), ?_⟩
          exact ⟨Bk.au, Bk.au, Ch.au⟩
         ·
          refine L_g (r_fieldb Tryz.underlying29 rfl (show _ = some 1 from rfl) rfl rfl (show _ = 5 from rfl)) ?_
          refine L_g (r_lb rfl rfl) ?_
          refine L_g (r_fieldb Tryz.underlying29 rfl (show _ = some 1 from rfl) rfl rfl (show _ = 5 from rfl)) ?_
          refine L_g (r_lb rfl rfl) ?_
          refine L_g (r_neq rfl rfl) (L_r (r_pf rfl rfl) (L_r (r_mb rfl) ?_))
          refine L_case (d := 61) rfl (fun h61 => ?_) (fun h61 => ?_)
          ·
           refine L_ps (L_ps (L_ps (L_ps (L_ps (L_r (r_pt rfl rfl) (L_r (r_mb rfl) (L_ps (L_ps ?_))))))))
           refine L_ps (L_ps (L_ps (L_r (r_pt rfl rfl) (L_r (r_mb rfl) (L_ps (L_ps (L_ps (L_ps ?_))))))))
           refine L_ps (L_r (r_pt rfl rfl) (L_r (r_mb rfl) (L_ps (L_ps (L_ps (L_ps (L_ps (L_r (r_pt rfl rfl) ?_))))))))
           refine L_r (r_mb rfl) (L_ps (L_ps (L_ps (L_ps (L_ps (L_ps (L_ps (L_r (r_pt rfl rfl) ?_))))))))
           refine L_nil ?_
           refine ⟨⟨fx2, fx2, fx2, fx2, fx2, trivial⟩, (dec_t (by clear hall; unfold hdE; first | (simp_all; done) | (simp_all; omega))), ?_⟩
           exact ⟨Bk.au, Bk.au, Ch.au⟩
          ·
           refine L_g (r_fieldb Tryz.underlying29 rfl (show _ = some 1 from rfl) rfl rfl (show _ = 6 from rfl)) ?_
           refine L_g (r_lb rfl rfl) ?_
           refine L_g (r_fieldb Tryz.underlying29 rfl (show _ = some 1 from rfl) rfl rfl (show _ = 6 from rfl)) ?_
           refine L_g (r_lb rfl rfl) ?_
           refine L_g (r_neq rfl rfl) (L_r (r_pf rfl rfl) (L_r (r_mb rfl) ?_))
           refine L_case (d := 68) rfl (fun h68 => ?_) (fun h68 => ?_)
           ·
            refine L_ps (L_ps (L_ps (L_ps (L_ps (L_r (r_pt rfl rfl) (L_r (r_mb rfl) (L_ps (L_ps ?_))))))))
            refine L_ps (L_ps (L_ps (L_r (r_pt rfl rfl) (L_r (r_mb rfl) (L_ps (L_ps (L_ps (L_ps ?_))))))))
            refine L_ps (L_r (r_pt rfl rfl) (L_r (r_mb rfl) (L_ps (L_ps (L_ps (L_ps (L_ps (L_ps ?_))))))))
            refine L_ps (L_r (r_pt rfl rfl) (L_nil ?_))
            refine ⟨⟨fx2, fx2, fx2, fx2, fx2, trivial⟩, (dec_t (by clear hall; unfold hdE; first | (simp_all; done) | (simp_all; omega))), ?_⟩
            exact ⟨Bk.au, Bk.au, Ch.au⟩
           ·
            refine L_g (r_fieldb Tryz.underlying29 rfl (show _ = some 1 from rfl) rfl rfl (show _ = 7 from rfl)) ?_
            refine L_g (r_lb rfl rfl) ?_
            refine L_g (r_fieldb Tryz.underlying29 rfl (show _ = some 1 from rfl) rfl rfl (show _ = 7 from rfl)) ?_
            refine L_g (r_lb rfl rfl) ?_
            refine L_g (r_neq rfl rfl) (L_r (r_pf rfl rfl) (L_r (r_mb rfl) ?_))
            refine L_case (d := 75) rfl (fun h75 => ?_) (fun h75 => ?_)
            ·
             refine L_ps (L_ps (L_ps (L_ps (L_ps (L_r (r_pt rfl rfl) (L_r (r_mb rfl) (L_ps (L_ps ?_))))))))
             refine L_ps (L_ps (L_ps (L_r (r_pt rfl rfl) (L_r (r_mb rfl) (L_ps (L_ps (L_ps (L_ps ?_))))))))
             refine L_ps (L_ps (L_ps (L_r (r_pt rfl rfl) (L_nil ?_))))
             refine ⟨⟨fx2, fx2, fx2, fx2, fx2, trivial⟩, (dec_t (by clear hall; unfold hdE; first | (simp_all; done) | (simp_all; omega))), ?_⟩
             exact ⟨Bk.au, Bk.au, Ch.au⟩
            ·
             refine L_g (r_fieldb Tryz.underlying29 rfl (show _ = some 1 from rfl) rfl rfl (show _ = 8 from rfl)) ?_
             refine L_g (r_lb rfl rfl) ?_
             refine L_g (r_fieldb Tryz.underlying29 rfl (show _ = some 1 from rfl) rfl rfl (show _ = 8 from rfl)) ?_
             refine L_g (r_lb rfl rfl) ?_
             refine L_g (r_neqs rfl rfl) (L_r (r_pf rfl rfl) (L_r (r_mb rfl) ?_))
             refine L_case (d := 82) rfl (fun h82 => ?_) (fun h82 => ?_)
             ·
              refine L_ps (L_ps (L_ps (L_ps (L_ps (L_r (r_pt rfl rfl) (L_r (r_mb rfl) (L_ps (L_ps ?_))))))))
              refine L_ps (L_ps (L_ps (L_ps (L_ps (L_r (r_pt rfl rfl) (L_nil ?_))))))
              refine ⟨⟨fx2, fx2, fx2, fx2, fx2, trivial⟩, (dec_t (by clear hall; unfold hdE; first | (simp_all; done) | (simp_all; omega))), ?_⟩
              exact ⟨Bk.au, Bk.au, Ch.au⟩
             ·
              refine L_g (r_fieldb Tryz.underlying29 rfl (show _ = some 1 from rfl) rfl rfl (show _ = 9 from rfl)) ?_
              refine L_g (r_lb rfl rfl) ?_
              refine L_g (r_fieldb Tryz.underlying29 rfl (show _ = some 1 from rfl) rfl rfl (show _ = 9 from rfl)) ?_
              refine L_g (r_lb rfl rfl) ?_
              refine L_g (r_neqs rfl rfl) (L_r (r_pf rfl rfl) (L_r (r_mb rfl) ?_))
              refine L_case (d := 89) rfl (fun h89 => ?_) (fun h89 => ?_)
              ·
               refine L_ps (L_ps (L_ps (L_ps (L_ps (L_ps (L_ps (L_r (r_pt rfl rfl) (L_nil ?_))))))))
               refine ⟨⟨fx2, fx2, fx2, fx2, fx2, trivial⟩, (dec_t (by clear hall; unfold hdE; first | (simp_all; done) | (simp_all; omega))), ?_⟩
               exact ⟨Bk.au, Bk.au, Ch.au⟩
              ·
               refine L_g (r_fieldb Tryz.underlying29 rfl (show _ = some 1 from rfl) rfl rfl (show _ = 4 from rfl)) ?_
               refine L_g (r_lb rfl rfl) ?_
               refine L_g (r_lenSl Tryz.underlying27 (by conv => lhs; whnf) Sl.au) ?_
               refine L_g (r_fieldb Tryz.underlying29 rfl (show _ = some 1 from rfl) rfl rfl (show _ = 4 from rfl)) ?_
               refine L_g (r_lb rfl rfl) ?_
               refine L_g (r_lenSl Tryz.underlying27 (by conv => lhs; whnf) Sl.au) ?_
               refine L_g (r_neq rfl rfl) (L_r (r_pf rfl rfl) (L_nil ?_))
               refine ⟨⟨fx2, fx2, fx2, fx2, fx2, trivial⟩, (dec_i (by clear hall; unfold hdE; first | (simp_all; done) | (simp_all; omega))), ?_⟩
               exact ⟨Bk.au, Bk.au, Ch.au⟩
     rintro gcr7 w7 ⟨hf97, hCr7⟩
     refine W_as 97 hf97 rfl ?_
     clear hf97
     obtain ⟨hk6, hk7, hnw7⟩ := hCr7
     have hz7 := hnw7.size
     refine W_if rfl (fun h97 => ?_) (fun h97 => ?_)
     ·
      refine W_seq (W_region (L_r (r_ab rfl) (L_nil (W_ret ?_))))
      refine ret1 (v := .bool _) rfl rfl ?_
      first
      | exact ⟨false, rfl, ⟨fun h => absurd h (by decide), fun h => absurd (congrArg List.length h) (by rw [List.length_map, List.length_map]; omega)⟩, Ch.au⟩
      | (refine ⟨true, rfl, ⟨fun _ => List.ext_getElem (by rw [List.length_map, List.length_map]; omega) fun j h1 h2 => ?_, fun _ => rfl⟩, Ch.au⟩
         rw [List.getElem_map, List.getElem_map]
         exact hall j (by simpa using h1) (by simpa using h2) (by simp at h1; omega))
      | (refine ⟨false, rfl, ⟨fun h => absurd h (by decide), fun h => ?_⟩, Ch.au⟩
         have hd : x.d = y.d := by
           have e1 : (l.map DD.d)[i]'(by simpa using hil) = (m.map DD.d)[i]'(by simpa using him) := by simp only [h]
           rw [List.getElem_map, List.getElem_map] at e1
           rw [hxe, hye]; exact e1
         first
         | exact absurd (show hdE x.d y.d from by rw [hd]; exact ⟨rfl, rfl, rfl, rfl, rfl, rfl, rfl, rfl, rfl, rfl⟩) h97
         | (have hpq : p = q' := by rw [hpe, hqe]; simp only [hd]
            subst hpq
            first | exact absurd ⟨rfl, rfl, rfl, rfl⟩ h115 | simp at h115))
     ·
      have hhd : hdE x.d y.d := Classical.not_not.1 h97
      have hle : x.d.args.length = y.d.args.length := hhd.2.2.2.2.2.2.2.2.2
      refine W_skip (W_seq (W_region (L_r (r_ai rfl) (L_nil (W_block ?_)))))
      refine W_loopF [0, 1, 5, 6, 7] (fun mz_ f W => ∃ (k : Nat), f 8 = .int .i64 k ∧ (k ≤ x.d.args.length ∧ (∀ a (h1 : a < x.d.args.length) (h2 : a < y.d.args.length), a < k → x.d.args[a] = y.d.args[a]) ∧ Bk W b6 x.row 29 ∧ Bk W b7 y.row 29 ∧ Nw w0 W) ∧ mz_ = x.d.args.length - k) ?_ ?_
      ·
       refine ⟨_, 0, rfl, ?_, rfl⟩
       exact ⟨by omega, fun a h1 h2 ha => absurd ha (by omega), Bk.au, Bk.au, Ch.au⟩
      rintro m1 g1 w8 ⟨k, hf8, hR1, rfl⟩
      refine W_as 8 hf8 rfl ?_
      clear hf8
      obtain ⟨hk, hpa, hk6, hk7, hnwk⟩ := hR1
      have hzk := hnwk.size
      refine W_seq (W_seq (W_region (L_r (r_mi rfl) ?_)))
      refine L_r (r_fieldb Tryz.underlying29 rfl (show _ = some 1 from rfl) rfl rfl (show _ = 4 from rfl)) (L_r (r_lb rfl rfl) ?_)
      refine L_r (r_lenSl Tryz.underlying27 (by conv => lhs; whnf) Sl.au) (L_r (r_lss rfl rfl) (L_nil ?_))
      refine W_if rfl (fun h102 => ?_) (fun h102 => ?_)
      ·
       have hkx : k < x.d.args.length := by omega
       have hky : k < y.d.args.length := by omega
       have hrp := cellsVa_row x.d.args k hkx
       have hrq := cellsVa_row y.d.args k hky
       obtain ⟨p, hpe⟩ : ∃ p, p = x.d.args[k] := ⟨_, rfl⟩
       obtain ⟨q', hqe⟩ : ∃ q', q' = y.d.args[k] := ⟨_, rfl⟩
       rw [← hpe] at hrp
       rw [← hqe] at hrq
       refine W_skip (W_seq (W_block (W_seq ?_)))
       refine W_still (by kernel_rfl) (by kernel_rfl) (fun w9 c9 hs9 => ?_)
       refine H_r (r_fieldb Tryz.underlying29 rfl (show _ = some 1 from rfl) rfl rfl (show _ = 4 from rfl)) ?_
       refine H_r (r_lb rfl rfl) ?_
       refine H_r (r_mi rfl) ?_
       refine H_r (r_ix Tryz.underlying27 (show _ = some 4 from rfl) (by conv => lhs; whnf) rfl Sl.au) ?_
       refine H_r (r_loadSlrow (us := [.int .i64 p.sort, .int .i64 p.n, .string p.s, .int .i64 p.ref]) Tryz.underlying43 rfl rfl rfl rfl Sl.au (by exact hrp)) ?_
       refine H_r (r_fieldb Tryz.underlying29 rfl (show _ = some 1 from rfl) rfl rfl (show _ = 4 from rfl)) ?_
       refine H_r (r_lb rfl rfl) ?_
       refine H_r (r_mi rfl) ?_
       refine H_r (r_ix Tryz.underlying27 (show _ = some 4 from rfl) (by conv => lhs; whnf) rfl Sl.au) ?_
       refine H_r (r_loadSlrow (us := [.int .i64 q'.sort, .int .i64 q'.n, .string q'.s, .int .i64 q'.ref]) Tryz.underlying43 rfl rfl rfl rfl Sl.au (by exact hrq)) ?_
       refine H_r (r_neqR (xs := #[.int _ _, .int _ _, .string _, .int _ _]) (ys := #[.int _ _, .int _ _, .string _, .int _ _]) rfl rfl (by kernel_rfl) (eqVal _ _ _ _ _ _ _ _ _)) ?_
       refine H_nil ?_
       refine W_if rfl (fun h115 => ?_) (fun h115 => ?_)
       ·
        refine W_seq (W_region (L_r (r_ab rfl) (L_nil (W_ret ?_))))
        refine ret1 (v := .bool _) rfl rfl ?_
        first
        | exact ⟨false, rfl, ⟨fun h => absurd h (by decide), fun h => absurd (congrArg List.length h) (by rw [List.length_map, List.length_map]; omega)⟩, Ch.au⟩
        | (refine ⟨true, rfl, ⟨fun _ => List.ext_getElem (by rw [List.length_map, List.length_map]; omega) fun j h1 h2 => ?_, fun _ => rfl⟩, Ch.au⟩
           rw [List.getElem_map, List.getElem_map]
           exact hall j (by simpa using h1) (by simpa using h2) (by simp at h1; omega))
        | (refine ⟨false, rfl, ⟨fun h => absurd h (by decide), fun h => ?_⟩, Ch.au⟩
           have hd : x.d = y.d := by
             have e1 : (l.map DD.d)[i]'(by simpa using hil) = (m.map DD.d)[i]'(by simpa using him) := by simp only [h]
             rw [List.getElem_map, List.getElem_map] at e1
             rw [hxe, hye]; exact e1
           first
           | exact absurd (show hdE x.d y.d from by rw [hd]; exact ⟨rfl, rfl, rfl, rfl, rfl, rfl, rfl, rfl, rfl, rfl⟩) h97
           | (have hpq : p = q' := by rw [hpe, hqe]; simp only [hd]
              subst hpq
              first | exact absurd ⟨rfl, rfl, rfl, rfl⟩ h115 | simp at h115))
       ·
        refine W_skip (W_region (L_r (r_mi rfl) ?_))
        refine L_r (r_add rfl rfl (by first | exact wr_i64 (by omega) | rfl)) (L_r (r_ai rfl) (L_nil ?_))
        refine ⟨⟨fx2, fx2, fx2, fx2, fx2, trivial⟩, _, ?_, k + 1, rfl, ?_, rfl⟩
        · omega
        refine ⟨by omega, fun a h1 h2 ha => ?_, Bk.au, Bk.au, Ch.au⟩
        rcases Nat.lt_or_ge a k with q | q
        · exact hpa a h1 h2 q
        ·
         have e : a = k := by omega
         subst e
         rw [← hpe, ← hqe]
         have h : p.sort = q'.sort ∧ p.n = q'.n ∧ p.s = q'.s ∧ p.ref = q'.ref := by { first | exact Classical.not_not.1 h115 | simpa using h115 }
         cases p; cases q'; simp_all
      ·
       refine W_exit ?_
       repeat (first | refine blk_hit ?_ | refine blk_miss rfl ?_)
       refine W_region (L_r (r_mi rfl) ?_)
       refine L_r (r_add rfl rfl (by first | exact wr_i64 (by omega) | rfl)) (L_r (r_ai rfl) (L_nil ?_))
       refine ⟨⟨fx2, fx2, trivial⟩, _, ?_, i + 1, rfl, ?_, rfl⟩
       · omega
       refine ⟨by omega, fun j h1 h2 hj => ?_, Ch.au⟩
       rcases Nat.lt_or_ge j i with k | k
       · exact hall j h1 h2 k
       ·
        have e : j = i := by omega
        subst e
        rw [← hxe, ← hye]
        refine hdE_eq hhd (List.ext_getElem hhd.2.2.2.2.2.2.2.2.2 fun a ha hb => hpa a ha hb (by omega))
    ·
     refine L_new (.plain rfl) rfl rfl (r_alloca rfl) (fun w10 b7 hb7 eb10 hs10 c10 => (L_nil ?_))
     refine heldK (by exact ⟨Sl.au, Sl.au⟩) (fun hS => ?_)
     refine D_ev 8 (by kernel_rfl) rfl ?_
     refine L_new (.plain rfl) rfl rfl (r_alloca rfl) (fun w11 b6 hb6 eb11 hs11 c11 => (L_nil ?_))
     refine heldK (by exact ⟨Sl.au, Sl.au⟩) (fun hS => ?_)
     refine D_ev 10 (by kernel_rfl) rfl ?_
     refine L_storerow (.plain rfl) rfl rfl Bk.au (by first | rfl | (simp; done) | assumption) (by first | rfl | assumption) (by first | exact row_one x hox | exact row_one y hoy) (fun w12 hb12 hs12 c12 => (L_nil ?_))
     refine heldK (by exact ⟨Sl.au, Sl.au⟩) (fun hS => ?_)
     refine D_ev 11 (by kernel_rfl) rfl ?_
     refine L_storerow (.plain rfl) rfl rfl Bk.au (by first | rfl | (simp; done) | assumption) (by first | rfl | assumption) (by first | exact row_one x hox | exact row_one y hoy) (fun w13 hb13 hs13 c13 => (L_nil ?_))
     refine heldL ?_
     refine D_done (by kernel_rfl) (W_seq ?_)
     refine W_cutF [0, 1, 5, 6, 7] (fun f W => f 97 = .bool (decide (¬ hdE x.d y.d)) ∧ (Bk W b6 x.row 29 ∧ Bk W b7 y.row 29 ∧ Nw w0 W)) ?_ ?_
     ·
      refine W_region ?_
      refine L_r (r_fieldb Tryz.underlying29 rfl (show _ = some 1 from rfl) rfl rfl (show _ = 0 from rfl)) (L_r (r_lb rfl rfl) ?_)
      refine L_r (r_fieldb Tryz.underlying29 rfl (show _ = some 1 from rfl) rfl rfl (show _ = 0 from rfl)) (L_r (r_lb rfl rfl) (L_r (r_neqs rfl rfl) (L_r (r_mb rfl) ?_)))
      refine L_case (d := 33) rfl (fun h33 => ?_) (fun h33 => ?_)
      ·
       refine L_ps (L_ps (L_ps (L_ps (L_ps (L_r (r_pt rfl rfl) (L_r (r_mb rfl) (L_ps (L_ps ?_))))))))
       refine L_ps (L_ps (L_ps (L_r (r_pt rfl rfl) (L_r (r_mb rfl) (L_ps (L_ps (L_ps (L_ps ?_))))))))
       refine L_ps (L_r (r_pt rfl rfl) (L_r (r_mb rfl) (L_ps (L_ps (L_ps (L_ps (L_ps (L_r (r_pt rfl rfl) ?_))))))))
       refine L_r (r_mb rfl) (L_ps (L_ps (L_ps (L_ps (L_ps (L_r (r_pt rfl rfl) (L_r (r_mb rfl) (L_ps ?_))))))))
       refine L_ps (L_ps (L_ps (L_ps (L_r (r_pt rfl rfl) (L_r (r_mb rfl) (L_ps (L_ps (L_ps ?_))))))))
       refine L_ps (L_ps (L_r (r_pt rfl rfl) (L_r (r_mb rfl) (L_ps (L_ps (L_ps (L_ps (L_ps ?_))))))))
       refine L_r (r_pt rfl rfl) (L_r (r_mb rfl) (L_ps (L_ps (L_ps (L_ps (L_ps (L_ps (L_ps ?_))))))))
       refine L_r (r_pt rfl rfl) (L_nil ?_)
       refine ⟨⟨fx2, fx2, fx2, fx2, fx2, trivial⟩, (dec_t (by clear hall; unfold hdE; first | (simp_all; done) | (simp_all; omega))), ?_⟩
       exact ⟨Bk.au, Bk.au, Ch.au⟩
      ·
       refine L_g (r_fieldb Tryz.underlying29 rfl (show _ = some 1 from rfl) rfl rfl (show _ = 1 from rfl)) ?_
       refine L_g (r_lb rfl rfl) ?_
       refine L_g (r_fieldb Tryz.underlying29 rfl (show _ = some 1 from rfl) rfl rfl (show _ = 1 from rfl)) ?_
       refine L_g (r_lb rfl rfl) ?_
       refine L_g (r_neq rfl rfl) (L_r (r_pf rfl rfl) (L_r (r_mb rfl) ?_))
       refine L_case (d := 40) rfl (fun h40 => ?_) (fun h40 => ?_)
       ·
        refine L_ps (L_ps (L_ps (L_ps (L_ps (L_r (r_pt rfl rfl) (L_r (r_mb rfl) (L_ps (L_ps ?_))))))))
        refine L_ps (L_ps (L_ps (L_r (r_pt rfl rfl) (L_r (r_mb rfl) (L_ps (L_ps (L_ps (L_ps ?_))))))))
        refine L_ps (L_r (r_pt rfl rfl) (L_r (r_mb rfl) (L_ps (L_ps (L_ps (L_ps (L_ps (L_r (r_pt rfl rfl) ?_))))))))
        refine L_r (r_mb rfl) (L_ps (L_ps (L_ps (L_ps (L_ps (L_r (r_pt rfl rfl) (L_r (r_mb rfl) (L_ps ?_))))))))
        refine L_ps (L_ps (L_ps (L_ps (L_r (r_pt rfl rfl) (L_r (r_mb rfl) (L_ps (L_ps (L_ps ?_))))))))
        refine L_ps (L_ps (L_r (r_pt rfl rfl) (L_r (r_mb rfl) (L_ps (L_ps (L_ps (L_ps (L_ps ?_))))))))
        refine L_ps (L_ps (L_r (r_pt rfl rfl) (L_nil ?_)))
        refine ⟨⟨fx2, fx2, fx2, fx2, fx2, trivial⟩, (dec_t (by clear hall; unfold hdE; first | (simp_all; done) | (simp_all; omega))), ?_⟩
        exact ⟨Bk.au, Bk.au, Ch.au⟩
       ·
        refine L_g (r_fieldb Tryz.underlying29 rfl (show _ = some 1 from rfl) rfl rfl (show _ = 2 from rfl)) ?_
        refine L_g (r_lb rfl rfl) ?_
        refine L_g (r_fieldb Tryz.underlying29 rfl (show _ = some 1 from rfl) rfl rfl (show _ = 2 from rfl)) ?_
        refine L_g (r_lb rfl rfl) ?_
        refine L_g (r_neq rfl rfl) (L_r (r_pf rfl rfl) (L_r (r_mb rfl) ?_))
        refine L_case (d := 47) rfl (fun h47 => ?_) (fun h47 => ?_)
        ·
         refine L_ps (L_ps (L_ps (L_ps (L_ps (L_r (r_pt rfl rfl) (L_r (r_mb rfl) (L_ps (L_ps ?_))))))))
         refine L_ps (L_ps (L_ps (L_r (r_pt rfl rfl) (L_r (r_mb rfl) (L_ps (L_ps (L_ps (L_ps ?_))))))))
         refine L_ps (L_r (r_pt rfl rfl) (L_r (r_mb rfl) (L_ps (L_ps (L_ps (L_ps (L_ps (L_r (r_pt rfl rfl) ?_))))))))
         refine L_r (r_mb rfl) (L_ps (L_ps (L_ps (L_ps (L_ps (L_r (r_pt rfl rfl) (L_r (r_mb rfl) (L_ps ?_))))))))
         refine L_ps (L_ps (L_ps (L_ps (L_r (r_pt rfl rfl) (L_r (r_mb rfl) (L_ps (L_ps (L_ps ?_))))))))
         refine L_ps (L_ps (L_ps (L_ps (L_r (r_pt rfl rfl) (L_nil ?_)))))
         refine ⟨⟨fx2, fx2, fx2, fx2, fx2, trivial⟩, (dec_t (by clear hall; unfold hdE; first | (simp_all; done) | (simp_all; omega))), ?_⟩
         exact ⟨Bk.au, Bk.au, Ch.au⟩
        ·
         refine L_g (r_fieldb Tryz.underlying29 rfl (show _ = some 1 from rfl) rfl rfl (show _ = 3 from rfl)) ?_
         refine L_g (r_lb rfl rfl) ?_
         refine L_g (r_fieldb Tryz.underlying29 rfl (show _ = some 1 from rfl) rfl rfl (show _ = 3 from rfl)) ?_
         refine L_g (r_lb rfl rfl) ?_
         refine L_g (r_neqs rfl rfl) (L_r (r_pf rfl rfl) (L_r (r_mb rfl) ?_))
         refine L_case (d := 54) rfl (fun h54 => ?_) (fun h54 => ?_)
         ·
          refine L_ps (L_ps (L_ps (L_ps (L_ps (L_r (r_pt rfl rfl) (L_r (r_mb rfl) (L_ps (L_ps ?_))))))))
          refine L_ps (L_ps (L_ps (L_r (r_pt rfl rfl) (L_r (r_mb rfl) (L_ps (L_ps (L_ps (L_ps ?_))))))))
          refine L_ps (L_r (r_pt rfl rfl) (L_r (r_mb rfl) (L_ps (L_ps (L_ps (L_ps (L_ps (L_r (r_pt rfl rfl) ?_))))))))
          refine L_r (r_mb rfl) (L_ps (L_ps (L_ps (L_ps (L_ps (L_r (r_pt rfl rfl) (L_r (r_mb rfl) (L_ps ?_))))))))
          refine L_ps (L_ps (L_ps (L_ps (L_ps (L_ps (L_r (r_pt rfl rfl) (L_nil ?_)))))))
          refine ⟨⟨fx2, fx2, fx2, fx2, fx2, trivial⟩, (dec_t (by clear hall; unfold hdE; first | (simp_all; done) | (simp_all; omega))), ?_⟩
          exact ⟨Bk.au, Bk.au, Ch.au⟩
         ·
          refine L_g (r_fieldb Tryz.underlying29 rfl (show _ = some 1 from rfl) rfl rfl (show _ = 5 from rfl)) ?_
          refine L_g (r_lb rfl rfl) ?_
          refine L_g (r_fieldb Tryz.underlying29 rfl (show _ = some 1 from rfl) rfl rfl (show _ = 5 from rfl)) ?_
          refine L_g (r_lb rfl rfl) ?_
          refine L_g (r_neq rfl rfl) (L_r (r_pf rfl rfl) (L_r (r_mb rfl) ?_))
          refine L_case (d := 61) rfl (fun h61 => ?_) (fun h61 => ?_)
          ·
           refine L_ps (L_ps (L_ps (L_ps (L_ps (L_r (r_pt rfl rfl) (L_r (r_mb rfl) (L_ps (L_ps ?_))))))))
           refine L_ps (L_ps (L_ps (L_r (r_pt rfl rfl) (L_r (r_mb rfl) (L_ps (L_ps (L_ps (L_ps ?_))))))))
           refine L_ps (L_r (r_pt rfl rfl) (L_r (r_mb rfl) (L_ps (L_ps (L_ps (L_ps (L_ps (L_r (r_pt rfl rfl) ?_))))))))
           refine L_r (r_mb rfl) (L_ps (L_ps (L_ps (L_ps (L_ps (L_ps (L_ps (L_r (r_pt rfl rfl) ?_))))))))
           refine L_nil ?_
           refine ⟨⟨fx2, fx2, fx2, fx2, fx2, trivial⟩, (dec_t (by clear hall; unfold hdE; first | (simp_all; done) | (simp_all; omega))), ?_⟩
           exact ⟨Bk.au, Bk.au, Ch.au⟩
          ·
           refine L_g (r_fieldb Tryz.underlying29 rfl (show _ = some 1 from rfl) rfl rfl (show _ = 6 from rfl)) ?_
           refine L_g (r_lb rfl rfl) ?_
           refine L_g (r_fieldb Tryz.underlying29 rfl (show _ = some 1 from rfl) rfl rfl (show _ = 6 from rfl)) ?_
           refine L_g (r_lb rfl rfl) ?_
           refine L_g (r_neq rfl rfl) (L_r (r_pf rfl rfl) (L_r (r_mb rfl) ?_))
           refine L_case (d := 68) rfl (fun h68 => ?_) (fun h68 => ?_)
           ·
            refine L_ps (L_ps (L_ps (L_ps (L_ps (L_r (r_pt rfl rfl) (L_r (r_mb rfl) (L_ps (L_ps ?_))))))))
            refine L_ps (L_ps (L_ps (L_r (r_pt rfl rfl) (L_r (r_mb rfl) (L_ps (L_ps (L_ps (L_ps ?_))))))))
            refine L_ps (L_r (r_pt rfl rfl) (L_r (r_mb rfl) (L_ps (L_ps (L_ps (L_ps (L_ps (L_ps ?_))))))))
            refine L_ps (L_r (r_pt rfl rfl) (L_nil ?_))
            refine ⟨⟨fx2, fx2, fx2, fx2, fx2, trivial⟩, (dec_t (by clear hall; unfold hdE; first | (simp_all; done) | (simp_all; omega))), ?_⟩
            exact ⟨Bk.au, Bk.au, Ch.au⟩
           ·
            refine L_g (r_fieldb Tryz.underlying29 rfl (show _ = some 1 from rfl) rfl rfl (show _ = 7 from rfl)) ?_
            refine L_g (r_lb rfl rfl) ?_
            refine L_g (r_fieldb Tryz.underlying29 rfl (show _ = some 1 from rfl) rfl rfl (show _ = 7 from rfl)) ?_
            refine L_g (r_lb rfl rfl) ?_
            refine L_g (r_neq rfl rfl) (L_r (r_pf rfl rfl) (L_r (r_mb rfl) ?_))
            refine L_case (d := 75) rfl (fun h75 => ?_) (fun h75 => ?_)
            ·
             refine L_ps (L_ps (L_ps (L_ps (L_ps (L_r (r_pt rfl rfl) (L_r (r_mb rfl) (L_ps (L_ps ?_))))))))
             refine L_ps (L_ps (L_ps (L_r (r_pt rfl rfl) (L_r (r_mb rfl) (L_ps (L_ps (L_ps (L_ps ?_))))))))
             refine L_ps (L_ps (L_ps (L_r (r_pt rfl rfl) (L_nil ?_))))
             refine ⟨⟨fx2, fx2, fx2, fx2, fx2, trivial⟩, (dec_t (by clear hall; unfold hdE; first | (simp_all; done) | (simp_all; omega))), ?_⟩
             exact ⟨Bk.au, Bk.au, Ch.au⟩
            ·
             refine L_g (r_fieldb Tryz.underlying29 rfl (show _ = some 1 from rfl) rfl rfl (show _ = 8 from rfl)) ?_
             refine L_g (r_lb rfl rfl) ?_
             refine L_g (r_fieldb Tryz.underlying29 rfl (show _ = some 1 from rfl) rfl rfl (show _ = 8 from rfl)) ?_
             refine L_g (r_lb rfl rfl) ?_
             refine L_g (r_neqs rfl rfl) (L_r (r_pf rfl rfl) (L_r (r_mb rfl) ?_))
             refine L_case (d := 82) rfl (fun h82 => ?_) (fun h82 => ?_)
             ·
              refine L_ps (L_ps (L_ps (L_ps (L_ps (L_r (r_pt rfl rfl) (L_r (r_mb rfl) (L_ps (L_ps ?_))))))))
              refine L_ps (L_ps (L_ps (L_ps (L_ps (L_r (r_pt rfl rfl) (L_nil ?_))))))
              refine ⟨⟨fx2, fx2, fx2, fx2, fx2, trivial⟩, (dec_t (by clear hall; unfold hdE; first | (simp_all; done) | (simp_all; omega))), ?_⟩
              exact ⟨Bk.au, Bk.au, Ch.au⟩
             ·
              refine L_g (r_fieldb Tryz.underlying29 rfl (show _ = some 1 from rfl) rfl rfl (show _ = 9 from rfl)) ?_
              refine L_g (r_lb rfl rfl) ?_
              refine L_g (r_fieldb Tryz.underlying29 rfl (show _ = some 1 from rfl) rfl rfl (show _ = 9 from rfl)) ?_
              refine L_g (r_lb rfl rfl) ?_
              refine L_g (r_neqs rfl rfl) (L_r (r_pf rfl rfl) (L_r (r_mb rfl) ?_))
              refine L_case (d := 89) rfl (fun h89 => ?_) (fun h89 => ?_)
              ·
               refine L_ps (L_ps (L_ps (L_ps (L_ps (L_ps (L_ps (L_r (r_pt rfl rfl) (L_nil ?_))))))))
               refine ⟨⟨fx2, fx2, fx2, fx2, fx2, trivial⟩, (dec_t (by clear hall; unfold hdE; first | (simp_all; done) | (simp_all; omega))), ?_⟩
               exact ⟨Bk.au, Bk.au, Ch.au⟩
              ·
               refine L_g (r_fieldb Tryz.underlying29 rfl (show _ = some 1 from rfl) rfl rfl (show _ = 4 from rfl)) ?_
               refine L_g (r_lb rfl rfl) ?_
               refine L_g (r_lenSl Tryz.underlying27 (by conv => lhs; whnf) Sl.au) ?_
               refine L_g (r_fieldb Tryz.underlying29 rfl (show _ = some 1 from rfl) rfl rfl (show _ = 4 from rfl)) ?_
               refine L_g (r_lb rfl rfl) ?_
               refine L_g (r_lenSl Tryz.underlying27 (by conv => lhs; whnf) Sl.au) ?_
               refine L_g (r_neq rfl rfl) (L_r (r_pf rfl rfl) (L_nil ?_))
               refine ⟨⟨fx2, fx2, fx2, fx2, fx2, trivial⟩, (dec_i (by clear hall; unfold hdE; first | (simp_all; done) | (simp_all; omega))), ?_⟩
               exact ⟨Bk.au, Bk.au, Ch.au⟩
     rintro gcr7 w14 ⟨hf97, hCr7⟩
     refine W_as 97 hf97 rfl ?_
     clear hf97
     obtain ⟨hk6, hk7, hnw7⟩ := hCr7
     have hz7 := hnw7.size
     refine W_if rfl (fun h97 => ?_) (fun h97 => ?_)
     ·
      refine W_seq (W_region (L_r (r_ab rfl) (L_nil (W_ret ?_))))
      refine ret1 (v := .bool _) rfl rfl ?_
      first
      | exact ⟨false, rfl, ⟨fun h => absurd h (by decide), fun h => absurd (congrArg List.length h) (by rw [List.length_map, List.length_map]; omega)⟩, Ch.au⟩
      | (refine ⟨true, rfl, ⟨fun _ => List.ext_getElem (by rw [List.length_map, List.length_map]; omega) fun j h1 h2 => ?_, fun _ => rfl⟩, Ch.au⟩
         rw [List.getElem_map, List.getElem_map]
         exact hall j (by simpa using h1) (by simpa using h2) (by simp at h1; omega))
      | (refine ⟨false, rfl, ⟨fun h => absurd h (by decide), fun h => ?_⟩, Ch.au⟩
         have hd : x.d = y.d := by
           have e1 : (l.map DD.d)[i]'(by simpa using hil) = (m.map DD.d)[i]'(by simpa using him) := by simp only [h]
           rw [List.getElem_map, List.getElem_map] at e1
           rw [hxe, hye]; exact e1
         first
         | exact absurd (show hdE x.d y.d from by rw [hd]; exact ⟨rfl, rfl, rfl, rfl, rfl, rfl, rfl, rfl, rfl, rfl⟩) h97
         | (have hpq : p = q' := by rw [hpe, hqe]; simp only [hd]
            subst hpq
            first | exact absurd ⟨rfl, rfl, rfl, rfl⟩ h115 | simp at h115))
     ·
      have hhd : hdE x.d y.d := Classical.not_not.1 h97
      have hle : x.d.args.length = y.d.args.length := hhd.2.2.2.2.2.2.2.2.2
      refine W_skip (W_seq (W_region (L_r (r_ai rfl) (L_nil (W_block ?_)))))
      refine W_loopF [0, 1, 5, 6, 7] (fun mz_ f W => ∃ (k : Nat), f 8 = .int .i64 k ∧ (k ≤ x.d.args.length ∧ (∀ a (h1 : a < x.d.args.length) (h2 : a < y.d.args.length), a < k → x.d.args[a] = y.d.args[a]) ∧ Bk W b6 x.row 29 ∧ Bk W b7 y.row 29 ∧ Nw w0 W) ∧ mz_ = x.d.args.length - k) ?_ ?_
      ·
       refine ⟨_, 0, rfl, ?_, rfl⟩
       exact ⟨by omega, fun a h1 h2 ha => absurd ha (by omega), Bk.au, Bk.au, Ch.au⟩
      rintro m1 g1 w15 ⟨k, hf8, hR1, rfl⟩
      refine W_as 8 hf8 rfl ?_
      clear hf8
      obtain ⟨hk, hpa, hk6, hk7, hnwk⟩ := hR1
      have hzk := hnwk.size
      refine W_seq (W_seq (W_region (L_r (r_mi rfl) ?_)))
      refine L_r (r_fieldb Tryz.underlying29 rfl (show _ = some 1 from rfl) rfl rfl (show _ = 4 from rfl)) (L_r (r_lb rfl rfl) ?_)
      refine L_r (r_lenSl Tryz.underlying27 (by conv => lhs; whnf) Sl.au) (L_r (r_lss rfl rfl) (L_nil ?_))
      refine W_if rfl (fun h102 => ?_) (fun h102 => ?_)
      ·
       have hkx : k < x.d.args.length := by omega
       have hky : k < y.d.args.length := by omega
       have hrp := cellsVa_row x.d.args k hkx
       have hrq := cellsVa_row y.d.args k hky
       obtain ⟨p, hpe⟩ : ∃ p, p = x.d.args[k] := ⟨_, rfl⟩
       obtain ⟨q', hqe⟩ : ∃ q', q' = y.d.args[k] := ⟨_, rfl⟩
       rw [← hpe] at hrp
       rw [← hqe] at hrq
       refine W_skip (W_seq (W_block (W_seq ?_)))
       refine W_still (by kernel_rfl) (by kernel_rfl) (fun w16 c16 hs16 => ?_)
       refine H_r (r_fieldb Tryz.underlying29 rfl (show _ = some 1 from rfl) rfl rfl (show _ = 4 from rfl)) ?_
       refine H_r (r_lb rfl rfl) ?_
       refine H_r (r_mi rfl) ?_
       refine H_r (r_ix Tryz.underlying27 (show _ = some 4 from rfl) (by conv => lhs; whnf) rfl Sl.au) ?_
       refine H_r (r_loadSlrow (us := [.int .i64 p.sort, .int .i64 p.n, .string p.s, .int .i64 p.ref]) Tryz.underlying43 rfl rfl rfl rfl Sl.au (by exact hrp)) ?_
       refine H_r (r_fieldb Tryz.underlying29 rfl (show _ = some 1 from rfl) rfl rfl (show _ = 4 from rfl)) ?_
       refine H_r (r_lb rfl rfl) ?_
       refine H_r (r_mi rfl) ?_
       refine H_r (r_ix Tryz.underlying27 (show _ = some 4 from rfl) (by conv => lhs; whnf) rfl Sl.au) ?_
       refine H_r (r_loadSlrow (us := [.int .i64 q'.sort, .int .i64 q'.n, .string q'.s, .int .i64 q'.ref]) Tryz.underlying43 rfl rfl rfl rfl Sl.au (by exact hrq)) ?_
       refine H_r (r_neqR (xs := #[.int _ _, .int _ _, .string _, .int _ _]) (ys := #[.int _ _, .int _ _, .string _, .int _ _]) rfl rfl (by kernel_rfl) (eqVal _ _ _ _ _ _ _ _ _)) ?_
       refine H_nil ?_
       refine W_if rfl (fun h115 => ?_) (fun h115 => ?_)
       ·
        refine W_seq (W_region (L_r (r_ab rfl) (L_nil (W_ret ?_))))
        refine ret1 (v := .bool _) rfl rfl ?_
        first
        | exact ⟨false, rfl, ⟨fun h => absurd h (by decide), fun h => absurd (congrArg List.length h) (by rw [List.length_map, List.length_map]; omega)⟩, Ch.au⟩
        | (refine ⟨true, rfl, ⟨fun _ => List.ext_getElem (by rw [List.length_map, List.length_map]; omega) fun j h1 h2 => ?_, fun _ => rfl⟩, Ch.au⟩
           rw [List.getElem_map, List.getElem_map]
           exact hall j (by simpa using h1) (by simpa using h2) (by simp at h1; omega))
        | (refine ⟨false, rfl, ⟨fun h => absurd h (by decide), fun h => ?_⟩, Ch.au⟩
           have hd : x.d = y.d := by
             have e1 : (l.map DD.d)[i]'(by simpa using hil) = (m.map DD.d)[i]'(by simpa using him) := by simp only [h]
             rw [List.getElem_map, List.getElem_map] at e1
             rw [hxe, hye]; exact e1
           first
           | exact absurd (show hdE x.d y.d from by rw [hd]; exact ⟨rfl, rfl, rfl, rfl, rfl, rfl, rfl, rfl, rfl, rfl⟩) h97
           | (have hpq : p = q' := by rw [hpe, hqe]; simp only [hd]
              subst hpq
              first | exact absurd ⟨rfl, rfl, rfl, rfl⟩ h115 | simp at h115))
       ·
        refine W_skip (W_region (L_r (r_mi rfl) ?_))
        refine L_r (r_add rfl rfl (by first | exact wr_i64 (by omega) | rfl)) (L_r (r_ai rfl) (L_nil ?_))
        refine ⟨⟨fx2, fx2, fx2, fx2, fx2, trivial⟩, _, ?_, k + 1, rfl, ?_, rfl⟩
        · omega
        refine ⟨by omega, fun a h1 h2 ha => ?_, Bk.au, Bk.au, Ch.au⟩
        rcases Nat.lt_or_ge a k with q | q
        · exact hpa a h1 h2 q
        ·
         have e : a = k := by omega
         subst e
         rw [← hpe, ← hqe]
         have h : p.sort = q'.sort ∧ p.n = q'.n ∧ p.s = q'.s ∧ p.ref = q'.ref := by { first | exact Classical.not_not.1 h115 | simpa using h115 }
         cases p; cases q'; simp_all
      ·
       refine W_exit ?_
       repeat (first | refine blk_hit ?_ | refine blk_miss rfl ?_)
       refine W_region (L_r (r_mi rfl) ?_)
       refine L_r (r_add rfl rfl (by first | exact wr_i64 (by omega) | rfl)) (L_r (r_ai rfl) (L_nil ?_))
       refine ⟨⟨fx2, fx2, trivial⟩, _, ?_, i + 1, rfl, ?_, rfl⟩
       · omega
       refine ⟨by omega, fun j h1 h2 hj => ?_, Ch.au⟩
       rcases Nat.lt_or_ge j i with k | k
       · exact hall j h1 h2 k
       ·
        have e : j = i := by omega
        subst e
        rw [← hxe, ← hye]
        refine hdE_eq hhd (List.ext_getElem hhd.2.2.2.2.2.2.2.2.2 fun a ha hb => hpa a ha hb (by omega))
   ·
    refine W_exit ?_
    repeat (first | refine blk_hit ?_ | refine blk_miss rfl ?_)
    refine W_seq (W_region (L_r (r_ab rfl) (L_nil (W_ret ?_))))
    refine ret1 (v := .bool _) rfl rfl ?_
    first
    | exact ⟨false, rfl, ⟨fun h => absurd h (by decide), fun h => absurd (congrArg List.length h) (by rw [List.length_map, List.length_map]; omega)⟩, Ch.au⟩
    | (refine ⟨true, rfl, ⟨fun _ => List.ext_getElem (by rw [List.length_map, List.length_map]; omega) fun j h1 h2 => ?_, fun _ => rfl⟩, Ch.au⟩
       rw [List.getElem_map, List.getElem_map]
       exact hall j (by simpa using h1) (by simpa using h2) (by simp at h1; omega))
    | (refine ⟨false, rfl, ⟨fun h => absurd h (by decide), fun h => ?_⟩, Ch.au⟩
       have hd : x.d = y.d := by
         have e1 : (l.map DD.d)[i]'(by simpa using hil) = (m.map DD.d)[i]'(by simpa using him) := by simp only [h]
         rw [List.getElem_map, List.getElem_map] at e1
         rw [hxe, hye]; exact e1
       first
       | exact absurd (show hdE x.d y.d from by rw [hd]; exact ⟨rfl, rfl, rfl, rfl, rfl, rfl, rfl, rfl, rfl, rfl⟩) h97
       | (have hpq : p = q' := by rw [hpe, hqe]; simp only [hd]
          subst hpq
          first | exact absurd ⟨rfl, rfl, rfl, rfl⟩ h115 | simp at h115))
end Go.Proofs.YtgmeojpekdekeaaGreatDoor

namespace Go.Proofs.YtgmeojpekdekeaaGreatDoor
open Go Go.RowKit
set_option linter.unusedVariables false
set_option linter.unusedSimpArgs false
set_option maxRecDepth 100000
/-- What stands behind the deeds' lines is nothing, or no deed's line. -/
def badT (t : List UInt8) : Prop := t ≠ [] ∧ ¬ goodT t
theorem shwB_cons (x : DD) (l : List DD) : shwB (x :: l) = linD x.d ++ shwB l := rfl
theorem allC_cons {x : DD} {l : List DD} (h : allC (x :: l)) : (chkD x.d ∧ ranD x.d) ∧ allC l := ⟨h x List.mem_cons_self, fun y hy => h y (List.mem_cons_of_mem _ hy)⟩
theorem allC_app {l k : List DD} (h : allC l) (h2 : allC k) : allC (l ++ k) := fun x hx => (List.mem_append.1 hx).elim (h x) (h2 x)
theorem rd_one : ∀ (l k : List DD) (t u : List UInt8), allC l → allC k → (t = [] ∨ badT t) → (u = [] ∨ badT u) → shwB l ++ t = shwB k ++ u → l.map DD.d = k.map DD.d ∧ t = u
  | [], [], t, u, _, _, _, _, e => ⟨rfl, e⟩
  | [], y :: k, t, u, _, hk, ht, _, e => by
    obtain ⟨hy, hk2⟩ := allC_cons hk
    rw [shwB_cons, List.append_assoc] at e
    have e2 : t = linD y.d ++ (shwB k ++ u) := e
    have hg := (good_lin hy.1 hy.2 (shwB k ++ u)).1
    rw [← e2] at hg
    rcases ht with rfl | ht
    · exact absurd (List.append_eq_nil_iff.1 e2.symm).1 (lin_ne _)
    · exact absurd hg ht.2
  | x :: l, [], t, u, hl, _, _, hu, e => by
    obtain ⟨hx, hl2⟩ := allC_cons hl
    rw [shwB_cons, List.append_assoc] at e
    have e2 : u = linD x.d ++ (shwB l ++ t) := e.symm
    have hg := (good_lin hx.1 hx.2 (shwB l ++ t)).1
    rw [← e2] at hg
    rcases hu with rfl | hu
    · exact absurd (List.append_eq_nil_iff.1 e2.symm).1 (lin_ne _)
    · exact absurd hg hu.2
  | x :: l, y :: k, t, u, hl, hk, ht, hu, e => by
    obtain ⟨hx, hl2⟩ := allC_cons hl
    obtain ⟨hy, hk2⟩ := allC_cons hk
    rw [shwB_cons, shwB_cons, List.append_assoc, List.append_assoc] at e
    have h1 := (good_lin hx.1 hx.2 (shwB l ++ t)).2
    have h2 := (good_lin hy.1 hy.2 (shwB k ++ u)).2
    rw [e] at h1
    have hd : x.d = y.d := h1.1.symm.trans h2.1
    have hr : shwB l ++ t = shwB k ++ u := h1.2.symm.trans h2.2
    obtain ⟨a, b⟩ := rd_one l k t u hl2 hk2 ht hu hr
    exact ⟨by rw [List.map_cons, List.map_cons, hd, a], b⟩
/-- What is read: the deeds, or how many lines there are ahead of the wrong one. -/
theorem sread_ok (base : Nat) (s : ByteArray) (l : List DD) (w0 : World) (hs : s.size ≤ 1000000) (hV : Sv base w0) (hb : base ≤ w0.heap.size) (hl : allC l) (he : bs s = shwB l) :
    Does Tryz.prog 14 #[.string s] w0 (fun r w' => ∃ k v, r = .tuple #[v, .int .i64 0, .int .i64 0] ∧ k.map DD.d = l.map DD.d ∧ allC k ∧ Ow w' w0.heap.size 29 10 v k.length (cellsDD k) ∧ LsAt w' w0.heap.size k ∧ Nw w0 w') := by
  refine (sread_walk base s w0 hs hV hb).mono ?_
  rintro r w' ⟨⟨k, v, h1, h2, h3, h4, h5⟩ | ⟨k, t, h1, h2, h3, h4, h5⟩, c⟩
  · exact ⟨k, v, h1, (rd_one k l [] [] h3 hl (.inl rfl) (.inl rfl) (by rw [← h2, he])).1, h3, h4, h5, c⟩
  ·
   have := (rd_one k l t [] h3 hl (.inr ⟨h4, h5⟩) (.inl rfl) (by rw [← h2, he, List.append_nil])).2
   exact absurd this h4
theorem sread_bad (base : Nat) (s : ByteArray) (l : List DD) (t : List UInt8) (w0 : World) (hs : s.size ≤ 1000000) (hV : Sv base w0) (hb : base ≤ w0.heap.size) (hl : allC l) (ht : badT t) (he : bs s = shwB l ++ t) :
    Does Tryz.prog 14 #[.string s] w0 (fun r w' => r = .tuple #[.slice none 0 0, .int .i64 ((l.length + 1 : Nat) : Int), .int .i64 200] ∧ Nw w0 w') := by
  refine (sread_walk base s w0 hs hV hb).mono ?_
  rintro r w' ⟨⟨k, v, h1, h2, h3, h4, h5⟩ | ⟨k, u, h1, h2, h3, h4, h5⟩, c⟩
  ·
   have := (rd_one k l [] t h3 hl (.inl rfl) (.inr ht) (by rw [← he, h2, List.append_nil])).2
   exact absurd this.symm ht.1
  ·
   have hm := (rd_one k l u t h3 hl (.inr ⟨h4, h5⟩) (.inr ht) (by rw [← h2, he])).1
   have e : k.length = l.length := by have := congrArg List.length hm; simpa using this
   rw [h1, e]
   exact ⟨rfl, c⟩
/-- What is read of any text. -/
structure rdP (s : ByteArray) (b : Nat) (w : World) (l : List DD) (t : List UInt8) (v : Value) (n e : Int) : Prop where
  al : allC l
  eq : bs s = shwB l ++ t
  or : (t = [] ∧ n = 0 ∧ e = 0) ∨ (badT t ∧ n = (l.length : Int) + 1 ∧ e = 200)
  ow : e = 0 → Ow w b 29 10 v l.length (cellsDD l)
  ls : e = 0 → LsAt w b l
  nl : e ≠ 0 → v = .slice none 0 0
theorem sread_any (base : Nat) (s : ByteArray) (w0 : World) (hs : s.size ≤ 1000000) (hV : Sv base w0) (hb : base ≤ w0.heap.size) :
    Does Tryz.prog 14 #[.string s] w0 (fun r w' => ∃ l t v n e, r = .tuple #[v, .int .i64 n, .int .i64 e] ∧ rdP s w0.heap.size w' l t v n e ∧ Nw w0 w') := by
  refine (sread_walk base s w0 hs hV hb).mono ?_
  rintro r w' ⟨⟨k, v, h1, h2, h3, h4, h5⟩ | ⟨k, u, h1, h2, h3, h4, h5⟩, c⟩
  · exact ⟨k, [], v, 0, 0, h1, ⟨h3, by rw [h2, List.append_nil], .inl ⟨rfl, rfl, rfl⟩, fun _ => h4, fun _ => h5, fun h => absurd rfl h⟩, c⟩
  · exact ⟨k, u, .slice none 0 0, ((k.length + 1 : Nat) : Int), 200, h1, ⟨h3, h2, .inr ⟨⟨h4, h5⟩, rfl, rfl⟩, fun h => absurd h (by decide), fun h => absurd h (by decide), fun _ => rfl⟩, c⟩
/-! ### lines counted -/
def nl (t : List UInt8) : Nat := t.count 10
theorem nl_lin {d : Dd} (h : chkD d) : nl (linD d) = 1 := by
  unfold nl linD
  rw [List.count_append, List.count_eq_zero.2 fun k => bodB_no h 10 k rfl]
  rfl
theorem nl_shw : ∀ l : List DD, allC l → nl (shwB l) = l.length
  | [], _ => rfl
  | x :: l, h => by
    obtain ⟨hx, hl⟩ := allC_cons h
    have h1 := nl_lin hx.1
    have h2 := nl_shw l hl
    unfold nl at h1 h2 ⊢
    rw [shwB_cons, List.count_append, h1, h2, List.length_cons]; omega
theorem shw_last : ∀ l : List DD, l ≠ [] → ∃ p, shwB l = p ++ [10]
  | [], h => absurd rfl h
  | [x], _ => ⟨bodB x.d, by rw [shwB_cons]; show linD x.d ++ [] = _; rw [List.append_nil]; rfl⟩
  | x :: y :: l, _ => by
    obtain ⟨p, hp⟩ := shw_last (y :: l) (by simp)
    exact ⟨linD x.d ++ p, by rw [shwB_cons, hp, List.append_assoc]⟩
/-- Ahead of the last line's end there are fewer lines. -/
theorem nl_less {l : List DD} (h : allC l) (u : List UInt8) (a : Nat) (ha : a < (shwB l).length) : nl ((shwB l ++ u).take a) < l.length := by
  have hne : l ≠ [] := by rintro rfl; simp [shwB] at ha
  obtain ⟨p, hp⟩ := shw_last l hne
  have h1 := nl_shw l h
  rw [List.take_append_of_le_length (Nat.le_of_lt ha), ← h1]
  rw [hp] at ha ⊢
  rw [List.length_append, List.length_singleton] at ha
  rw [List.take_append_of_le_length (by omega)]
  unfold nl
  rw [List.count_append]
  have h2 := (List.take_sublist a p).count_le 10
  have h3 : List.count (10 : UInt8) [10] = 1 := rfl
  omega
theorem nl_at {l : List DD} (h : allC l) (u : List UInt8) : nl ((shwB l ++ u).take (shwB l).length) = l.length := by
  rw [List.take_left]; exact nl_shw l h
theorem nl_succ (t : List UInt8) (a : Nat) (h : a < t.length) : nl (t.take (a + 1)) = nl (t.take a) + (if t[a] = 10 then 1 else 0) := by
  unfold nl
  rw [List.take_succ_eq_append_getElem h, List.count_append, List.count_singleton]
  by_cases e : t[a] = 10 <;> simp [e]
end Go.Proofs.YtgmeojpekdekeaaGreatDoor

namespace Go.Proofs.YtgmeojpekdekeaaGreatDoor
open Go Go.RowKit Go.Deep
set_option linter.unusedVariables false
set_option linter.unusedSimpArgs false
theorem flat_get {X : Type} (f : X → List Value) (sz : Nat) (hf : ∀ x, (f x).length = sz) : ∀ (z : List X) (k : Nat) (u : Value), (z.flatMap f)[k]? = some u → ∃ (i r : Nat) (hi : i < z.length), k = i * sz + r ∧ r < sz ∧ (f z[i])[r]? = some u
  | [], k, u, h => by simp at h
  | x :: z, k, u, h => by
    rw [List.flatMap_cons] at h
    by_cases hk : k < sz
    ·
     rw [List.getElem?_append_left (by rw [hf]; exact hk)] at h
     exact ⟨0, k, by simp, by omega, hk, h⟩
    ·
     rw [List.getElem?_append_right (by rw [hf]; omega), hf] at h
     obtain ⟨i, r, hi, h1, h2, h3⟩ := flat_get f sz hf z (k - sz) u h
     refine ⟨i + 1, r, by simpa using hi, ?_, h2, by simpa using h3⟩
     rw [Nat.add_mul]; omega
theorem flat_length {X : Type} (f : X → List Value) (sz : Nat) (hf : ∀ x, (f x).length = sz) : ∀ z : List X, (z.flatMap f).length = z.length * sz
  | [] => by simp
  | x :: z => by rw [List.flatMap_cons, List.length_append, hf, flat_length f sz hf z, List.length_cons, Nat.add_mul]; omega
/-! ### rows within rows: what is read; a bound on sizes that parts inherit -/
theorem weights_all {H : Type} {P : Program} {e : TypeId} : ∀ {l : List (DataW H)} {d : DataW H}, d ∈ l → ∀ n ∈ d.weights P e, n ∈ DataW.weightsAll P e l
  | x :: l, d, hd, n, hn => by
    simp only [DataW.weightsAll, List.mem_append]
    rcases List.mem_cons.1 hd with rfl | hd
    · exact .inl hn
    · exact .inr (weights_all hd n hn)
/-- What parts inherit; texts and rows are no longer than R. -/
structure Inh {H : Type} (P : Program) (G : TypeId → DataW H → Prop) (R : Nat) : Prop where
  st : ∀ {t : TypeId} {fs : Array Field} {parts : List (DataW H)}, P.underlying t = some (.struct fs) → G t (.agg parts) → ∀ {i : Nat} {f : Field} {d : DataW H}, fs[i]? = some f → parts[i]? = some d → G f.type d
  sl : ∀ {t e : TypeId} {l s : List (DataW H)}, P.underlying t = some (.slice e) → G t (.slice l s) → (∀ d ∈ l, G e d) ∧ (1 ≤ P.bytesOf e → l.length ≤ R)
  str : ∀ {t : TypeId} {b : List UInt8}, G t (.lit (.string b)) → b.length ≤ R
theorem inh_weights {H : Type} (P : Program) (R : Nat) : Inh (H := H) P (fun t d => ∀ k ∈ d.weights P t, k ≤ R) R where
  st := by
    intro t fs parts hu h i f d hf hd k hk
    refine h k ?_
    have e : DataW.weights P t (.agg parts) = DataW.weightsEach P (fs.toList.map (·.type)) parts := by
      unfold DataW.weights
      rw [hu]
    rw [e]
    exact DataW.weights_mem_each (j := i) (t := f.type) (d := d) (by rw [List.getElem?_map, Array.getElem?_toList, hf]; rfl) hd k hk
  sl := by
    intro t e l s hu h
    have ew : DataW.weights P t (.slice l s) = (l.length + s.length) * P.bytesOf e :: (DataW.weightsAll P e l ++ DataW.weightsAll P e s) := by
      unfold DataW.weights
      rw [hu]
    rw [ew] at h
    refine ⟨fun d hd k hk => h k (List.mem_cons_of_mem _ (List.mem_append_left _ (weights_all hd k hk))), fun hb => ?_⟩
    have h1 := h _ List.mem_cons_self
    exact Nat.le_trans (Nat.le_trans (by omega : l.length ≤ l.length + s.length) (Nat.le_mul_of_pos_right _ hb)) h1
  str := by
    intro t b h
    exact h b.length (by simp [DataW.weights])
/-- A field of a struct that was read. -/
theorem st_sz {H : Type} {enc : TypeId × Value → H} {P : Program} {W : World} {n t : Nat} {cs : List Value} {fs : Array Field} {d : DataW H} {p : List MemPlace} {G : TypeId → DataW H → Prop} {R : Nat} (hG : Inh P G R) (hu : P.underlying t = some (.struct fs))
    (h : DataW.trod enc P W 0 (fun _ => true) true n t cs = some (d, p)) (hw : G t d) :
    cs.length = P.cellsOf t ∧ ∀ (i : Nat) (f : Field), fs[i]? = some f → ∃ m d' p', DataW.trod enc P W 0 (fun _ => true) true m f.type ((cs.drop f.offset).take (P.cellsOf f.type)) = some (d', p') ∧ G f.type d' := by
  obtain ⟨xs, m, _, hx, hl, hxl, hf⟩ := DataW.trod_struct hu h
  refine ⟨hl, fun i f hi => ?_⟩
  have hi2 : i < xs.length := by rw [hxl]; exact (Array.getElem?_eq_some_iff.1 hi).1
  have h2 := hf i f hi
  rw [List.getElem?_eq_getElem hi2] at h2
  have hd : d = .agg (xs.map (·.1)) := congrArg Prod.fst hx
  rw [hd] at hw
  exact ⟨m, xs[i].1, xs[i].2, h2, hG.st hu hw hi (by rw [List.getElem?_map, List.getElem?_eq_getElem hi2]; rfl)⟩
/-- A row that was read, within whatever. -/
theorem sl_trod {H : Type} {enc : TypeId × Value → H} {P : Program} {W : World} {n : Nat} {t e : TypeId} {cs : List Value} {d : DataW H} {p : List MemPlace} {X : Type} [Inhabited X] (f : X → List Value) (sz : Nat) (Q : X → Prop) {G : TypeId → DataW H → Prop} {R : Nat} (hG : Inh P G R) (hf : ∀ x, (f x).length = sz) (h0 : 0 < sz)
    (ht : P.underlying t = some (.slice e)) (hc : P.cellsOf e = sz) (hb1 : 1 ≤ P.bytesOf e) (hel : ∀ n cs d p, DataW.trod enc P W 0 (fun _ => true) true n e cs = some (d, p) → G e d → ∃ x : X, cs = f x ∧ Q x)
    (h : DataW.trod enc P W 0 (fun _ => true) true n t cs = some (d, p)) (hw : G t d) :
    ∃ (v : Value) (z : List X), cs = [v] ∧ Sl W v sz z.length (z.flatMap f) ∧ (∀ x ∈ z, Q x) ∧ z.length ≤ R := by
  rcases open_slice ht h with ⟨rfl, _⟩ | ⟨a, len, cap, m, k, D, Pl, rfl, _, hlc, _, hm, hd, hx⟩
  · exact ⟨_, [], rfl, Sl.nil _ _, by simp, by simp⟩
  rw [hc] at hx
  rw [if_pos rfl] at hm
  subst hm
  have hdd : d = .slice ((List.range len).map D) ((List.range (m - len)).map fun j => D (len + j)) := congrArg Prod.fst hd
  rw [hdd] at hw
  obtain ⟨hwe, hwl⟩ := hG.sl ht hw
  have hR : len ≤ R := by have h2 := hwl hb1; simpa using h2
  have hch : ∀ i, ∃ x : X, i < len → Q x ∧ ∀ r, r < sz → W.cell? ((a.add (i * sz)).add r) = (f x)[r]? := by
    intro i
    by_cases hi : i < len
    ·
     obtain ⟨cs', h2, h3⟩ := hx i (by omega)
     obtain ⟨x, rfl, hq⟩ := hel _ _ _ _ h3 (hwe _ (List.mem_map.2 ⟨i, List.mem_range.2 hi, rfl⟩))
     obtain ⟨_, _, h4⟩ := World.cells?_some h2
     exact ⟨x, fun _ => ⟨hq, h4⟩⟩
    · exact ⟨default, fun hi' => absurd hi' hi⟩
  have hzl : ((List.range len).map fun i => Classical.choose (hch i)).length = len := by simp
  refine ⟨_, (List.range len).map fun i => Classical.choose (hch i), rfl, ?_, ?_, by rw [hzl]; exact hR⟩
  ·
   rw [hzl]
   by_cases hm0 : m = 0
   ·
    subst hm0
    obtain rfl : len = 0 := by omega
    exact ⟨by simp, .inl ⟨_, rfl, rfl⟩⟩
   ·
    obtain ⟨cs', h2, h3⟩ := hx 0 (by omega)
    obtain ⟨_, hl4, h4⟩ := World.cells?_some h2
    have h5 := h4 0 h0
    rw [Nat.zero_mul] at h5
    have e0 : ∀ a : Addr, a.add 0 = a := fun a => by simp [Addr.add]
    rw [e0, e0] at h5
    obtain ⟨b, o, sp⟩ := a
    obtain ⟨u, hu⟩ : ∃ u, W.cell? ⟨b, o, sp⟩ = some u := by
      rw [h5]
      exact ⟨_, List.getElem?_eq_getElem (by omega)⟩
    have hb : sp = none ∧ ∃ c row fr, W.heap[b]? = some (.cells c row fr) := by
      unfold World.cell? at hu
      split at hu
      ·
       rename_i c row fr hh
       split at hu
       · cases hu
       ·
        rename_i hs
        exact ⟨by simpa using hs, c, row, fr, hh⟩
      · cases hu
    obtain ⟨rfl, c, row, fr, hb⟩ := hb
    refine ⟨by rw [flat_length f sz hf, hzl], .inr ⟨b, o, m, c, row, rfl, hlc, ⟨fr, hb⟩, fun k u hk => ?_⟩⟩
    obtain ⟨i, r, hi, rfl, hr, hu⟩ := flat_get f sz hf _ k u hk
    rw [hzl] at hi
    have h6 := (Classical.choose_spec (hch i) hi).2 r hr
    simp only [List.getElem_map, List.getElem_range] at hu
    rw [hu, add_lit, add_lit, Rk.cell (cs := c) (t := row) ⟨fr, hb⟩] at h6
    rw [← Nat.add_assoc]
    exact h6
  ·
   intro x hx
   obtain ⟨i, hi, rfl⟩ := List.mem_map.1 hx
   exact (Classical.choose_spec (hch i) (List.mem_range.1 hi)).1
end Go.Proofs.YtgmeojpekdekeaaGreatDoor
