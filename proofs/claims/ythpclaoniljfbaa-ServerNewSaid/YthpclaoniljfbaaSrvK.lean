/- ServerKeeps, walked; the acts that are handed in. -/
import Derived.Test.YthpclaoniljfbaaSrvU
import Derived.Test.YthpclaoniljfbaaArgs
namespace Go.Proofs.Ythpclaoniljfbaa
open Go Go.RowKit
set_option linter.unusedVariables false
set_option linter.unusedSimpArgs false
structure SAct where
  k : Int
  m : Msg
instance : Inhabited SAct := ⟨⟨0, Msg.zero⟩⟩
abbrev sa (a : SAct) : List Value := [.int .i64 a.k, .int .i64 a.m.kind, .int .u64 a.m.life, .int .u64 a.m.seq, .int .u64 a.m.below, .int .u64 a.m.object, .string a.m.method, .int .i64 a.m.way, .string a.m.body]
def cellsS (z : List SAct) : List Value := z.flatMap sa
theorem cellsS_row : ∀ (z : List SAct) (i : Nat) (h : i < z.length) (j : Nat) (u : Value), (sa z[i])[j]? = some u → (cellsS z)[i * 9 + j]? = some u
  | x :: z, 0, _, j, u, hj => by
    have hj9 : j < 9 := by have := (List.getElem?_eq_some_iff.1 hj).1; simpa [sa] using this
    simp only [cellsS, List.flatMap_cons, Nat.zero_mul, Nat.zero_add]
    rw [List.getElem?_append_left (by simpa [sa] using hj9)]
    exact hj
  | x :: z, i + 1, h, j, u, hj => by
    have := cellsS_row z i (by simpa using h) j u hj
    simp only [cellsS, List.flatMap_cons]
    rw [List.getElem?_append_right (by simp [sa]; omega)]
    rw [show (i + 1) * 9 + j - (sa x).length = i * 9 + j by simp [sa]; omega]
    exact this
theorem st_at {H : Type} {enc : TypeId × Value → H} {P : Program} {W : World} {n : Nat} {cs : List Value} {fs : Array Field} {xs : List (DataW H × List MemPlace)} (hl : xs.length = fs.size)
    (hf : ∀ (i : Nat) (f : Field), fs[i]? = some f → DataW.trod enc P W 0 (fun _ => true) true n f.type ((cs.drop f.offset).take (P.cellsOf f.type)) = xs[i]?) (i : Nat) (f : Field) (h : fs[i]? = some f) :
    ∃ y, DataW.trod enc P W 0 (fun _ => true) true n f.type ((cs.drop f.offset).take (P.cellsOf f.type)) = some y := by
  have hi : i < xs.length := by rw [hl]; exact (Array.getElem?_eq_some_iff.1 h).1
  exact ⟨xs[i], by rw [hf i f h, List.getElem?_eq_getElem hi]⟩
theorem rd_msg {H : Type} {enc : TypeId × Value → H} {W : World} {n : Nat} {cs : List Value} {y : DataW H × List MemPlace} (hy : DataW.trod enc Try.prog W 0 (fun _ => true) true n 33 cs = some y) : ∃ m : Msg, cs = [.int .i64 m.kind, .int .u64 m.life, .int .u64 m.seq, .int .u64 m.below, .int .u64 m.object, .string m.method, .int .i64 m.way, .string m.body] := by
  obtain ⟨xs, m, _, _, hl, hxl, hf⟩ := DataW.trod_struct Try.underlying33 hy
  have hl8 : cs.length = 8 := hl
  match cs, hl8 with
  | [c0, c1, c2, c3, c4, c5, c6, c7], _ =>
    obtain ⟨y0, g0⟩ := st_at hxl hf 0 _ rfl
    obtain ⟨y1, g1⟩ := st_at hxl hf 1 _ rfl
    obtain ⟨y2, g2⟩ := st_at hxl hf 2 _ rfl
    obtain ⟨y3, g3⟩ := st_at hxl hf 3 _ rfl
    obtain ⟨y4, g4⟩ := st_at hxl hf 4 _ rfl
    obtain ⟨y5, g5⟩ := st_at hxl hf 5 _ rfl
    obtain ⟨y6, g6⟩ := st_at hxl hf 6 _ rfl
    obtain ⟨y7, g7⟩ := st_at hxl hf 7 _ rfl
    obtain ⟨n0, e0, _⟩ := DataW.trod_int Try.underlying3 g0
    obtain ⟨n1, e1, _⟩ := DataW.trod_int Try.underlying28 g1
    obtain ⟨n2, e2, _⟩ := DataW.trod_int Try.underlying28 g2
    obtain ⟨n3, e3, _⟩ := DataW.trod_int Try.underlying28 g3
    obtain ⟨n4, e4, _⟩ := DataW.trod_int Try.underlying28 g4
    obtain ⟨n5, e5, _⟩ := DataW.trod_string Try.underlying9 g5
    obtain ⟨n6, e6, _⟩ := DataW.trod_int Try.underlying3 g6
    obtain ⟨n7, e7, _⟩ := DataW.trod_string Try.underlying9 g7
    have f0 : c0 = .int .i64 n0 := (List.cons.inj e0).1
    have f1 : c1 = .int .u64 n1 := (List.cons.inj e1).1
    have f2 : c2 = .int .u64 n2 := (List.cons.inj e2).1
    have f3 : c3 = .int .u64 n3 := (List.cons.inj e3).1
    have f4 : c4 = .int .u64 n4 := (List.cons.inj e4).1
    have f5 : c5 = .string n5 := (List.cons.inj e5).1
    have f6 : c6 = .int .i64 n6 := (List.cons.inj e6).1
    have f7 : c7 = .string n7 := (List.cons.inj e7).1
    exact ⟨⟨n0, n1, n2, n3, n4, n5, n6, n7⟩, by rw [f0, f1, f2, f3, f4, f5, f6, f7]⟩
theorem rd_22 {H : Type} {enc : TypeId × Value → H} {W : World} {b0 j : Nat} {v : Value} {d : DataW H} {p : List MemPlace} {R : Prop} (_ : R) (_ : 0 = 0) (_ : 0 = 0)
    (hok : Value.okWide Try.prog W .any b0 22 v) (h : DataW.Trod enc Try.prog W 0 (fun _ => true) true 22 v d p) : ∃ z : List SAct, Sl W v 9 z.length (cellsS z) := by
  obtain ⟨z, hz, _⟩ := sl_arg sa 9 (fun _ => True) (fun _ => rfl) Try.underlying22 rfl (fun n cs y hy => by
    obtain ⟨xs, m, _, _, hl, hxl, hf⟩ := DataW.trod_struct Try.underlying35 hy
    have hl9 : cs.length = 9 := hl
    match cs, hl9 with
    | [c, c0, c1, c2, c3, c4, c5, c6, c7], _ =>
      obtain ⟨y0, g0⟩ := st_at hxl hf 0 _ rfl
      obtain ⟨y1, g1⟩ := st_at hxl hf 1 _ rfl
      obtain ⟨n0, e0, _⟩ := DataW.trod_int Try.underlying3 g0
      have f0 : c = .int .i64 n0 := (List.cons.inj e0).1
      obtain ⟨mm, em⟩ := rd_msg g1
      have em2 : [c0, c1, c2, c3, c4, c5, c6, c7] = [.int .i64 mm.kind, .int .u64 mm.life, .int .u64 mm.seq, .int .u64 mm.below, .int .u64 mm.object, .string mm.method, .int .i64 mm.way, .string mm.body] := em
      exact ⟨⟨n0, mm⟩, by rw [f0]; exact congrArg (List.cons _) em2, trivial⟩) hok h
  exact ⟨z, hz⟩
/-! ### what it keeps, and when it lives -/
theorem recv_facts (S : Srv) (m : Msg) : (recv S m).1.most = S.most ∧ ((S.kept.length : Int) ≤ S.most → ((recv S m).1.kept.length : Int) ≤ S.most) ∧ (recv S m).1.st.length ≤ S.st.length + 1 ∧ S.life ≤ (recv S m).1.life ∧ ((recv S m).1.life = S.life → S.floor ≤ (recv S m).1.floor) := by
  unfold recv
  split
  · exact ⟨rfl, fun h => h, Nat.le_succ _, Int.le_refl _, fun _ => Int.le_refl _⟩
  · rename_i hg
    obtain ⟨a1, a2, a3⟩ := recv1_same S m
    obtain ⟨b1, b2, b3, b4⟩ := recv2_same (recv1 S m) m
    have hlf : S.life ≤ (recv1 S m).life ∧ ((recv1 S m).life = S.life → S.floor = (recv1 S m).floor) := by
      unfold recv1; split
      · exact ⟨by show S.life ≤ m.life; omega, fun h => by have h' : m.life = S.life := h; omega⟩
      · exact ⟨Int.le_refl _, fun _ => rfl⟩
    have hfl : (recv1 S m).floor ≤ (recv2 (recv1 S m) m).floor := by
      unfold recv2; split
      · show (recv1 S m).floor ≤ m.below; omega
      · exact Int.le_refl _
    generalize recv2 (recv1 S m) m = S2 at *
    generalize recv1 S m = S1 at *
    have hml := mset_length S2.kept m.seq Msg.zero
    unfold recv3
    split
    · exact ⟨by show S2.most = _; rw [b1, a1], fun h => by show (S2.kept.length : Int) ≤ _; omega, by show S2.st.length ≤ _; rw [b2, a2]; exact Nat.le_succ _, by show S.life ≤ S2.life; rw [b4]; exact hlf.1, fun h => by have h' : S2.life = S.life := h; show S.floor ≤ S2.floor; rw [b4] at h'; have := hlf.2 h'; omega⟩
    · split
      · exact ⟨by show S2.most = _; rw [b1, a1], fun h => by show (S2.kept.length : Int) ≤ _; omega, by show S2.st.length ≤ _; rw [b2, a2]; exact Nat.le_succ _, by show S.life ≤ S2.life; rw [b4]; exact hlf.1, fun h => by have h' : S2.life = S.life := h; show S.floor ≤ S2.floor; rw [b4] at h'; have := hlf.2 h'; omega⟩
      · split
        · exact ⟨by show S2.most = _; rw [b1, a1], fun h => by show (S2.kept.length : Int) ≤ _; omega, by show S2.st.length ≤ _; rw [b2, a2]; exact Nat.le_succ _, by show S.life ≤ S2.life; rw [b4]; exact hlf.1, fun h => by have h' : S2.life = S.life := h; show S.floor ≤ S2.floor; rw [b4] at h'; have := hlf.2 h'; omega⟩
        · rename_i hf
          exact ⟨by show S2.most = _; rw [b1, a1], fun h => by show ((mset S2.kept m.seq Msg.zero).length : Int) ≤ _; omega, by show (S2.st ++ _).length ≤ _; rw [List.length_append, b2, a2]; exact Nat.le_refl _, by show S.life ≤ S2.life; rw [b4]; exact hlf.1, fun h => by have h' : S2.life = S.life := h; show S.floor ≤ S2.floor; rw [b4] at h'; have := hlf.2 h'; omega⟩
theorem mset_len_in {L : List (Int × Msg)} {k : Int} {v : Msg} (h : (mget L k).isSome = true) : (mset L k v).length = L.length := by
  unfold mset; rw [if_pos h, List.length_map]
theorem fin_facts (S : Srv) (life seq way : Int) (body : ByteArray) : (fin S life seq way body).1.most = S.most ∧ (fin S life seq way body).1.kept.length ≤ S.kept.length ∧ (fin S life seq way body).1.st = S.st ∧ (fin S life seq way body).1.life = S.life ∧ (fin S life seq way body).1.floor = S.floor := by
  unfold fin
  split
  · exact ⟨rfl, Nat.le_refl _, rfl, rfl, rfl⟩
  · rename_i h1
    split
    · exact ⟨rfl, Nat.le_refl _, rfl, rfl, rfl⟩
    · refine ⟨rfl, ?_, rfl, rfl, rfl⟩
      have hm : mget S.kept seq = some Msg.zero := by
        apply Classical.byContradiction; intro h; exact h1 (.inr h)
      show (List.filter _ (mset S.kept seq _)).length ≤ _
      refine Nat.le_trans (List.length_filter_le _ _) ?_
      exact Nat.le_of_eq (mset_len_in (by rw [hm]; rfl))
theorem recv_eta (S : Srv) (m : Msg) : recv S m = ((recv S m).1, (recv S m).2.1, (recv S m).2.2) := rfl
theorem fin_eta (S : Srv) (life seq way : Int) (body : ByteArray) : fin S life seq way body = ((fin S life seq way body).1, (fin S life seq way body).2.1, (fin S life seq way body).2.2) := rfl
set_option maxHeartbeats 4000000 in
set_option maxRecDepth 100000 in
theorem ServerKeeps_walk (a0 : Int) (v1 : Value) (z : List SAct) (w0 : World) (y0 : 0 ≤ a0 ∧ a0 ≤ 255) (y1 : Sl w0 v1 9 z.length (cellsS z)) : Does Try.prog 4 #[.int .u8 a0, v1] w0 (fun r w' => r = .bool true ∧ Nw w0 w') := by
  refine fn_of (n := 96) (args := [.int .u8 a0, v1]) Try.func4 rfl rfl rfl ?_
  refine W_seq ?_
  refine W_region ?_
  refine L_run (.plain rfl) rfl rfl (r_assign (v := .bool _) rfl) ?_
  refine L_nil ?_
  refine W_seq ?_
  refine W_region ?_
  refine L_run (.plain rfl) rfl rfl (r_move (v := .int _ _) rfl) ?_
  refine L_run (.plain rfl) rfl rfl (r_conv Try.underlying5 Try.underlying3 rfl (by first | exact wr_i64 (by omega) | rfl)) ?_
  refine L_run (.plain rfl) rfl rfl (r_remn rfl rfl (by omega) (by omega)) ?_
  refine L_run (.plain rfl) rfl rfl (r_add rfl rfl (by first | exact wr_i64 (by omega) | rfl)) ?_
  refine L_call (.plain rfl) rfl rfl (r_call Try.func8 rfl rfl rfl (by rfl)) (new_walk (1 + a0 % 20) _ (by omega)) ?_
  rintro v16 w1 ⟨b, bm, rfl, hS0, c1⟩
  have hz1 := c1.size
  refine L_run (.plain rfl) rfl rfl (r_move (by conv => lhs; whnf)) ?_
  refine L_run (.plain rfl) rfl rfl (r_ext2_0 rfl) ?_
  refine L_run (.plain rfl) rfl rfl (r_ext2_1 rfl) ?_
  refine L_run (.plain rfl) rfl rfl (r_assign (v := .pointer _) rfl) ?_
  refine L_run (.plain rfl) rfl rfl (r_assign (v := .int _ _) rfl) ?_
  refine L_nil ?_
  refine W_seq ?_
  refine W_seq ?_
  refine W_region ?_
  refine L_call (.plain rfl) rfl rfl (r_call Try.func9 rfl rfl rfl (by rfl)) (awake_walk _) ?_
  rintro v19 w2 ⟨rfl, c2⟩
  have hz2 := c2.size
  refine L_run (.plain rfl) rfl rfl (r_not rfl) ?_
  refine L_as (v := .bool _) (v' := .bool false) 20 rfl (congrArg Value.bool (by rfl)) ?_
  refine L_run (.plain rfl) rfl rfl (r_move (v := .bool _) rfl) ?_
  refine L_run (.yes 2 false rfl rfl) rfl rfl (r_move (v := .int _ _) rfl) ?_
  refine L_run (.yes 2 false rfl rfl) rfl rfl (r_neq rfl rfl) ?_
  refine L_as (v := .bool _) (v' := .bool false) 23 rfl (dec_f (by simp)).symm ?_
  refine L_run (.plain rfl) rfl rfl (r_pick_f (v := .bool _) rfl rfl) ?_
  refine L_run (.plain rfl) rfl rfl (r_move (v := .bool _) rfl) ?_
  refine L_run (.yes 6 false rfl rfl) rfl rfl (r_move (v := .pointer _) rfl) ?_
  refine L_run (.yes 6 false rfl rfl) rfl rfl (r_eqpnil Try.underlying23 rfl rfl) ?_
  refine L_as (v := .bool _) (v' := .bool false) 27 rfl (congrArg Value.bool (by rfl)) ?_
  refine L_run (.plain rfl) rfl rfl (r_pick_f (v := .bool _) rfl rfl) ?_
  refine L_nil ?_
  refine W_false rfl ?_
  refine W_skip ?_
  refine W_seq ?_
  refine W_region ?_
  refine L_run (.plain rfl) rfl rfl (r_assign (v := .int _ _) rfl) ?_
  refine L_run (.plain rfl) rfl rfl (r_assign (v := .int _ _) rfl) ?_
  refine L_nil ?_
  refine W_seq ?_
  refine W_seq ?_
  refine W_region ?_
  refine L_run (.plain rfl) rfl rfl (r_assign (v := .int _ _) rfl) ?_
  refine L_nil ?_
  refine W_block ?_
  refine W_loopF [0, 1, 5] (fun m f W => ∃ (i : Nat) (S : Srv) (vs : Value), f 9 = .int .i64 i ∧ f 7 = .int .u64 S.life ∧ f 8 = .int .u64 S.floor ∧ (i ≤ z.length ∧ i ≤ 150 ∧ SrvAt w0.heap.size W b bm vs S ∧ S.most = 1 + a0 % 20 ∧ (S.kept.length : Int) ≤ S.most ∧ S.st.length ≤ i ∧ Nw w0 W) ∧ m = 150 - i) ?_ ?_
  · refine ⟨_, 0, ⟨1 + a0 % 20, 0, 1, [], []⟩, .slice none 0 0, rfl, rfl, rfl, ?_, rfl⟩
    exact ⟨by omega, by omega, (hS0.base' (by omega)).nw (by (repeat (first | exact Ch.refl _ | assumption | (refine Ch.fresh ?_ (by assumption) (by intro i hi he; first | exact he | exact (not_no he).elim | exact Or.inl he | exact Or.inr (Or.inl he) | exact Or.inr (Or.inr he) | (exfalso; have he2 : _ = some i := he; have := own_base (by assumption) he2; omega) | (exfalso; have he2 : i = _ := he; omega) | (exfalso; have he2 : _ = some i := he; have := ow_base (by assumption) he2; omega) | (exfalso; have := he.1; omega)))))), rfl, by simp; omega, by simp, by (repeat (first | exact Ch.refl _ | assumption | (refine Ch.fresh ?_ (by assumption) (by intro i hi he; first | exact he | exact (not_no he).elim | exact Or.inl he | exact Or.inr (Or.inl he) | exact Or.inr (Or.inr he) | (exfalso; have he2 : _ = some i := he; have := own_base (by assumption) he2; omega) | (exfalso; have he2 : i = _ := he; omega) | (exfalso; have he2 : _ = some i := he; have := ow_base (by assumption) he2; omega) | (exfalso; have := he.1; omega)))))⟩
  rintro m0 g0 w3 ⟨i, S, vs, hf9, hf7, hf8, hR0, rfl⟩
  refine W_as 9 hf9 rfl ?_
  refine W_as 7 hf7 rfl ?_
  refine W_as 8 hf8 rfl ?_
  clear hf9 hf7 hf8
  obtain ⟨hi1, hi2, hA, hmo, hkl, hsl, hnw⟩ := hR0
  have hz := hnw.size
  refine W_seq ?_
  refine W_seq ?_
  refine W_region ?_
  refine L_run (.plain rfl) rfl rfl (r_move (v := .int _ _) rfl) ?_
  refine L_run (.plain rfl) rfl rfl (r_move (by conv => lhs; whnf)) ?_
  refine L_run (.plain rfl) rfl rfl (r_lenSl Try.underlying22 (by conv => lhs; whnf) (by (exact Sl.to (by first | assumption | exact Sl.own (by assumption) | exact Mu.sl (by assumption) | exact Ow.sl (by assumption)) (fun i hi => by (repeat (first | exact Sm.refl _ _ | (refine Sm.stepT (by assumption) (by intro hlt hsm; first | exact not_no | (intro he; have he2 : _ = some _ := he; have := own_base (by assumption) he2; omega) | (intro he; have he2 : _ = _ := he; omega) | (intro he; have he2 : _ = some _ := he; have := ow_base (by assumption) he2; omega) | (intro he; have := he.1; omega) | exact bk_not (by assumption) hsm rfl | exact mp_not (by assumption) hsm | exact bkm_not (by assumption) hsm rfl | (refine ownm_not ?_ hi hsm rfl <;> assumption) | (refine owm_not ?_ hi hsm rfl <;> assumption) | (refine own_not ?_ hi hsm rfl <;> assumption) | (refine ow_not ?_ hi hsm rfl <;> assumption) | (intro he; have he2 : _ = some _ := he; have := Ow.lt (by assumption) he2; omega) | (intro he; have he2 : _ = some _ := he; have := Ow.lt (by assumption) he2; have := own_base (by assumption) hi; omega) | (intro he; have he2 : _ = some _ := he; have := Ow.lt how he2; first | omega | (have := own_base (by assumption) hi; omega)) | (intro he; have he2 : _ = _ := he; have := Ow.lt how hi; omega) | (intro he; have he2 : _ = _ := he; have := own_base (by assumption) hi; omega) | (intro he; have he2 : _ = _ := he; have := ow_base (by assumption) hi; omega) | (intro he; have he2 : _ = _ := he; rw [he2] at hi; exact absurd hi (by assumption)) | (intro he; have he2 : _ = some _ := he; have h3 := own_lt (by assumption) he2; first | omega | (have h4 : _ = some _ := hi; simp [Value.ownBlock] at h4; omega)) | (intro he; have he2 : _ = some _ := he; have h3 := ow_base (by assumption) he2; have h4 : _ = some _ := hi; simp [Value.ownBlock] at h4; omega) | (intro he; have he2 : _ = some _ := he; exact absurd he2 (hsep _ hi)) | (intro he; first | exact absurd he (by assumption) | exact absurd he.symm (by assumption))) ?_))))))) ?_
  refine L_run (.plain rfl) rfl rfl (r_lss rfl rfl) ?_
  refine L_run (.plain rfl) rfl rfl (r_move (v := .bool _) rfl) ?_
  refine L_case (d := 33) rfl (fun h33 => ?_) (fun h33 => ?_)
  · refine L_run (.yes 4 true rfl rfl) rfl rfl (r_move (v := .int _ _) rfl) ?_
    refine L_run (.yes 4 true rfl rfl) rfl rfl (r_lss rfl rfl) ?_
    refine L_run (.plain rfl) rfl rfl (r_pick_t (v := .bool _) rfl rfl) ?_
    refine L_nil ?_
    refine W_if rfl (fun h36 => ?_) (fun h36 => ?_)
    · have hlt : i < z.length := by omega
      refine W_skip ?_
      refine W_cutF [0, 1, 5, 9] (fun f W => ∃ (S2 : Srv) (vs2 : Value), f 7 = .int .u64 S2.life ∧ f 8 = .int .u64 S2.floor ∧ (i + 1 ≤ z.length ∧ i + 1 ≤ 150 ∧ SrvAt w0.heap.size W b bm vs2 S2 ∧ S2.most = 1 + a0 % 20 ∧ (S2.kept.length : Int) ≤ S2.most ∧ S2.st.length ≤ i + 1 ∧ Nw w0 W)) ?_ ?_
      · refine W_block ?_
        refine W_seq ?_
        obtain ⟨Sx, hSx⟩ : ∃ x, x = S := ⟨_, rfl⟩
        obtain ⟨vx, hvx⟩ : ∃ x, x = vs := ⟨_, rfl⟩
        refine W_region ?_
        refine L_run (.plain rfl) rfl rfl (r_move (by conv => lhs; whnf)) ?_
        refine L_run (.plain rfl) rfl rfl (r_move (v := .int _ _) rfl) ?_
        refine L_run (.plain rfl) rfl rfl (r_idxSl Try.underlying22 (show _ = some 9 from rfl) (by conv => lhs; whnf) rfl (by (exact Sl.to (by first | assumption | exact Sl.own (by assumption) | exact Mu.sl (by assumption) | exact Ow.sl (by assumption)) (fun i hi => by (repeat (first | exact Sm.refl _ _ | (refine Sm.stepT (by assumption) (by intro hlt hsm; first | exact not_no | (intro he; have he2 : _ = some _ := he; have := own_base (by assumption) he2; omega) | (intro he; have he2 : _ = _ := he; omega) | (intro he; have he2 : _ = some _ := he; have := ow_base (by assumption) he2; omega) | (intro he; have := he.1; omega) | exact bk_not (by assumption) hsm rfl | exact mp_not (by assumption) hsm | exact bkm_not (by assumption) hsm rfl | (refine ownm_not ?_ hi hsm rfl <;> assumption) | (refine owm_not ?_ hi hsm rfl <;> assumption) | (refine own_not ?_ hi hsm rfl <;> assumption) | (refine ow_not ?_ hi hsm rfl <;> assumption) | (intro he; have he2 : _ = some _ := he; have := Ow.lt (by assumption) he2; omega) | (intro he; have he2 : _ = some _ := he; have := Ow.lt (by assumption) he2; have := own_base (by assumption) hi; omega) | (intro he; have he2 : _ = some _ := he; have := Ow.lt how he2; first | omega | (have := own_base (by assumption) hi; omega)) | (intro he; have he2 : _ = _ := he; have := Ow.lt how hi; omega) | (intro he; have he2 : _ = _ := he; have := own_base (by assumption) hi; omega) | (intro he; have he2 : _ = _ := he; have := ow_base (by assumption) hi; omega) | (intro he; have he2 : _ = _ := he; rw [he2] at hi; exact absurd hi (by assumption)) | (intro he; have he2 : _ = some _ := he; have h3 := own_lt (by assumption) he2; first | omega | (have h4 : _ = some _ := hi; simp [Value.ownBlock] at h4; omega)) | (intro he; have he2 : _ = some _ := he; have h3 := ow_base (by assumption) he2; have h4 : _ = some _ := hi; simp [Value.ownBlock] at h4; omega) | (intro he; have he2 : _ = some _ := he; exact absurd he2 (hsep _ hi)) | (intro he; first | exact absurd he (by assumption) | exact absurd he.symm (by assumption))) ?_)))))) (by omega) (by omega) (by conv => lhs; (try simp only [Nat.mul_one, Nat.zero_add, Int.toNat_natCast, Int.toNat_zero, Int.reduceToNat, Nat.reduceMul, Nat.reduceAdd]))) ?_
        refine L_run (.plain rfl) rfl rfl (r_loadSlrow (us := [.int .i64 z[i].k, .int .i64 z[i].m.kind, .int .u64 z[i].m.life, .int .u64 z[i].m.seq, .int .u64 z[i].m.below, .int .u64 z[i].m.object, .string z[i].m.method, .int .i64 z[i].m.way, .string z[i].m.body]) Try.underlying35 rfl rfl rfl rfl (by (exact Sl.to (by first | assumption | exact Sl.own (by assumption) | exact Mu.sl (by assumption) | exact Ow.sl (by assumption)) (fun i hi => by (repeat (first | exact Sm.refl _ _ | (refine Sm.stepT (by assumption) (by intro hlt hsm; first | exact not_no | (intro he; have he2 : _ = some _ := he; have := own_base (by assumption) he2; omega) | (intro he; have he2 : _ = _ := he; omega) | (intro he; have he2 : _ = some _ := he; have := ow_base (by assumption) he2; omega) | (intro he; have := he.1; omega) | exact bk_not (by assumption) hsm rfl | exact mp_not (by assumption) hsm | exact bkm_not (by assumption) hsm rfl | (refine ownm_not ?_ hi hsm rfl <;> assumption) | (refine owm_not ?_ hi hsm rfl <;> assumption) | (refine own_not ?_ hi hsm rfl <;> assumption) | (refine ow_not ?_ hi hsm rfl <;> assumption) | (intro he; have he2 : _ = some _ := he; have := Ow.lt (by assumption) he2; omega) | (intro he; have he2 : _ = some _ := he; have := Ow.lt (by assumption) he2; have := own_base (by assumption) hi; omega) | (intro he; have he2 : _ = some _ := he; have := Ow.lt how he2; first | omega | (have := own_base (by assumption) hi; omega)) | (intro he; have he2 : _ = _ := he; have := Ow.lt how hi; omega) | (intro he; have he2 : _ = _ := he; have := own_base (by assumption) hi; omega) | (intro he; have he2 : _ = _ := he; have := ow_base (by assumption) hi; omega) | (intro he; have he2 : _ = _ := he; rw [he2] at hi; exact absurd hi (by assumption)) | (intro he; have he2 : _ = some _ := he; have h3 := own_lt (by assumption) he2; first | omega | (have h4 : _ = some _ := hi; simp [Value.ownBlock] at h4; omega)) | (intro he; have he2 : _ = some _ := he; have h3 := ow_base (by assumption) he2; have h4 : _ = some _ := hi; simp [Value.ownBlock] at h4; omega) | (intro he; have he2 : _ = some _ := he; exact absurd he2 (hsep _ hi)) | (intro he; first | exact absurd he (by assumption) | exact absurd he.symm (by assumption))) ?_)))))) (by exact cellsS_row z i hlt)) ?_
        refine L_new (.plain rfl) rfl rfl (r_alloca rfl) (fun w4 b10 hb10 eb4 hs4 c4 => ?_)
        refine L_storerow (.plain rfl) rfl rfl (by (exact Bk.to (by assumption) (by (repeat (first | exact Sm.refl _ _ | (refine Sm.stepT (by assumption) (by intro hlt hsm; first | exact not_no | (intro he; have he2 : _ = some _ := he; have := own_base (by assumption) he2; omega) | (intro he; have he2 : _ = _ := he; omega) | (intro he; have he2 : _ = some _ := he; have := ow_base (by assumption) he2; omega) | (intro he; have := he.1; omega) | exact bk_not (by assumption) hsm rfl | exact mp_not (by assumption) hsm | exact bkm_not (by assumption) hsm rfl | (refine ownm_not ?_ hi hsm rfl <;> assumption) | (refine owm_not ?_ hi hsm rfl <;> assumption) | (refine own_not ?_ hi hsm rfl <;> assumption) | (refine ow_not ?_ hi hsm rfl <;> assumption) | (intro he; have he2 : _ = some _ := he; have := Ow.lt (by assumption) he2; omega) | (intro he; have he2 : _ = some _ := he; have := Ow.lt (by assumption) he2; have := own_base (by assumption) hi; omega) | (intro he; have he2 : _ = some _ := he; have := Ow.lt how he2; first | omega | (have := own_base (by assumption) hi; omega)) | (intro he; have he2 : _ = _ := he; have := Ow.lt how hi; omega) | (intro he; have he2 : _ = _ := he; have := own_base (by assumption) hi; omega) | (intro he; have he2 : _ = _ := he; have := ow_base (by assumption) hi; omega) | (intro he; have he2 : _ = _ := he; rw [he2] at hi; exact absurd hi (by assumption)) | (intro he; have he2 : _ = some _ := he; have h3 := own_lt (by assumption) he2; first | omega | (have h4 : _ = some _ := hi; simp [Value.ownBlock] at h4; omega)) | (intro he; have he2 : _ = some _ := he; have h3 := ow_base (by assumption) he2; have h4 : _ = some _ := hi; simp [Value.ownBlock] at h4; omega) | (intro he; have he2 : _ = some _ := he; exact absurd he2 (hsep _ hi)) | (intro he; first | exact absurd he (by assumption) | exact absurd he.symm (by assumption))) ?_)))))) (by first | rfl | (simp; done) | assumption) (by first | rfl | assumption) (by first | rfl | (simp [Value.oneCell']; done) | assumption) (fun w5 hb5 hs5 c5 => ?_)
        refine L_nil ?_
        refine W_seq ?_
        refine W_seq ?_
        refine W_region ?_
        refine L_run (.plain rfl) rfl rfl (r_loadrow Try.underlying35 rfl rfl (by (exact Bk.to (by assumption) (by (repeat (first | exact Sm.refl _ _ | (refine Sm.stepT (by assumption) (by intro hlt hsm; first | exact not_no | (intro he; have he2 : _ = some _ := he; have := own_base (by assumption) he2; omega) | (intro he; have he2 : _ = _ := he; omega) | (intro he; have he2 : _ = some _ := he; have := ow_base (by assumption) he2; omega) | (intro he; have := he.1; omega) | exact bk_not (by assumption) hsm rfl | exact mp_not (by assumption) hsm | exact bkm_not (by assumption) hsm rfl | (refine ownm_not ?_ hi hsm rfl <;> assumption) | (refine owm_not ?_ hi hsm rfl <;> assumption) | (refine own_not ?_ hi hsm rfl <;> assumption) | (refine ow_not ?_ hi hsm rfl <;> assumption) | (intro he; have he2 : _ = some _ := he; have := Ow.lt (by assumption) he2; omega) | (intro he; have he2 : _ = some _ := he; have := Ow.lt (by assumption) he2; have := own_base (by assumption) hi; omega) | (intro he; have he2 : _ = some _ := he; have := Ow.lt how he2; first | omega | (have := own_base (by assumption) hi; omega)) | (intro he; have he2 : _ = _ := he; have := Ow.lt how hi; omega) | (intro he; have he2 : _ = _ := he; have := own_base (by assumption) hi; omega) | (intro he; have he2 : _ = _ := he; have := ow_base (by assumption) hi; omega) | (intro he; have he2 : _ = _ := he; rw [he2] at hi; exact absurd hi (by assumption)) | (intro he; have he2 : _ = some _ := he; have h3 := own_lt (by assumption) he2; first | omega | (have h4 : _ = some _ := hi; simp [Value.ownBlock] at h4; omega)) | (intro he; have he2 : _ = some _ := he; have h3 := ow_base (by assumption) he2; have h4 : _ = some _ := hi; simp [Value.ownBlock] at h4; omega) | (intro he; have he2 : _ = some _ := he; exact absurd he2 (hsep _ hi)) | (intro he; first | exact absurd he (by assumption) | exact absurd he.symm (by assumption))) ?_)))))) (by first | rfl | assumption)) ?_
        refine L_call (.plain rfl) rfl rfl (r_call Try.func10 rfl rfl rfl (by rfl)) (few_walk z[i].k z[i].m _) ?_
        rintro v44 w6 ⟨rfl, c6⟩
        have hz6 := c6.size
        refine L_run (.plain rfl) rfl rfl (r_not rfl) ?_
        refine L_nil ?_
        refine W_bool rfl (fun h45 => ?_) (fun h45 => ?_)
        · refine W_exit ?_
          repeat (first | refine blk_hit ?_ | refine blk_miss rfl ?_)
          refine ⟨⟨rfl, rfl, rfl, rfl, trivial⟩, Sx, vx, (by rw [hSx]; rfl), (by rw [hSx]; rfl), ?_⟩
          first
            | (subst hSx hvx
               exact ⟨by omega, by omega, hA.nw (by (repeat (first | exact Ch.refl _ | assumption | (refine Ch.fresh ?_ (by assumption) (by intro i hi he; first | exact he | exact (not_no he).elim | exact Or.inl he | exact Or.inr (Or.inl he) | exact Or.inr (Or.inr he) | (exfalso; have he2 : _ = some i := he; have := own_base (by assumption) he2; omega) | (exfalso; have he2 : i = _ := he; omega) | (exfalso; have he2 : _ = some i := he; have := ow_base (by assumption) he2; omega) | (exfalso; have := he.1; omega)))))), hmo, hkl, by omega, by (repeat (first | exact Ch.refl _ | assumption | (refine Ch.fresh ?_ (by assumption) (by intro i hi he; first | exact he | exact (not_no he).elim | exact Or.inl he | exact Or.inr (Or.inl he) | exact Or.inr (Or.inr he) | (exfalso; have he2 : _ = some i := he; have := own_base (by assumption) he2; omega) | (exfalso; have he2 : i = _ := he; omega) | (exfalso; have he2 : _ = some i := he; have := ow_base (by assumption) he2; omega) | (exfalso; have := he.1; omega)))))⟩)
            | (subst hSx hvx
               exact ⟨by omega, by omega, hA3.nw (by (repeat (first | exact Ch.refl _ | assumption | (refine Ch.fresh ?_ (by assumption) (by intro i hi he; first | exact he | exact (not_no he).elim | exact Or.inl he | exact Or.inr (Or.inl he) | exact Or.inr (Or.inr he) | (exfalso; have he2 : _ = some i := he; have := own_base (by assumption) he2; omega) | (exfalso; have he2 : i = _ := he; omega) | (exfalso; have he2 : _ = some i := he; have := ow_base (by assumption) he2; omega) | (exfalso; have := he.1; omega)))))), by omega, hk3, by omega, by (repeat (first | exact Ch.refl _ | assumption | (refine Ch.fresh ?_ (by assumption) (by intro i hi he; first | exact he | exact (not_no he).elim | exact Or.inl he | exact Or.inr (Or.inl he) | exact Or.inr (Or.inr he) | (exfalso; have he2 : _ = some i := he; have := own_base (by assumption) he2; omega) | (exfalso; have he2 : i = _ := he; omega) | (exfalso; have he2 : _ = some i := he; have := ow_base (by assumption) he2; omega) | (exfalso; have := he.1; omega)))))⟩)
        · refine W_skip ?_
          refine W_seq ?_
          refine W_seq ?_
          refine W_region ?_
          refine L_run (.plain rfl) rfl rfl (r_fieldb Try.underlying35 rfl (show _ = some 1 from rfl) rfl rfl (show _ = 0 from rfl)) ?_
          refine L_run (.plain rfl) rfl rfl (r_loadb rfl rfl (by (exact Bk.to (by assumption) (by (repeat (first | exact Sm.refl _ _ | (refine Sm.stepT (by assumption) (by intro hlt hsm; first | exact not_no | (intro he; have he2 : _ = some _ := he; have := own_base (by assumption) he2; omega) | (intro he; have he2 : _ = _ := he; omega) | (intro he; have he2 : _ = some _ := he; have := ow_base (by assumption) he2; omega) | (intro he; have := he.1; omega) | exact bk_not (by assumption) hsm rfl | exact mp_not (by assumption) hsm | exact bkm_not (by assumption) hsm rfl | (refine ownm_not ?_ hi hsm rfl <;> assumption) | (refine owm_not ?_ hi hsm rfl <;> assumption) | (refine own_not ?_ hi hsm rfl <;> assumption) | (refine ow_not ?_ hi hsm rfl <;> assumption) | (intro he; have he2 : _ = some _ := he; have := Ow.lt (by assumption) he2; omega) | (intro he; have he2 : _ = some _ := he; have := Ow.lt (by assumption) he2; have := own_base (by assumption) hi; omega) | (intro he; have he2 : _ = some _ := he; have := Ow.lt how he2; first | omega | (have := own_base (by assumption) hi; omega)) | (intro he; have he2 : _ = _ := he; have := Ow.lt how hi; omega) | (intro he; have he2 : _ = _ := he; have := own_base (by assumption) hi; omega) | (intro he; have he2 : _ = _ := he; have := ow_base (by assumption) hi; omega) | (intro he; have he2 : _ = _ := he; rw [he2] at hi; exact absurd hi (by assumption)) | (intro he; have he2 : _ = some _ := he; have h3 := own_lt (by assumption) he2; first | omega | (have h4 : _ = some _ := hi; simp [Value.ownBlock] at h4; omega)) | (intro he; have he2 : _ = some _ := he; have h3 := ow_base (by assumption) he2; have h4 : _ = some _ := hi; simp [Value.ownBlock] at h4; omega) | (intro he; have he2 : _ = some _ := he; exact absurd he2 (hsep _ hi)) | (intro he; first | exact absurd he (by assumption) | exact absurd he.symm (by assumption))) ?_)))))) (by first | assumption | (conv => lhs; simp only [List.getElem?_toArray, List.getElem?_cons_succ, List.getElem?_cons_zero]))) ?_
          refine L_run (.plain rfl) rfl rfl (r_eql rfl rfl) ?_
          refine L_nil ?_
          refine W_endF [0, 1, 5, 7, 8, 9] (fun f W => ∃ (S3 : Srv) (vs3 : Value), True ∧ (SrvAt w0.heap.size W b bm vs3 S3 ∧ S3.most = S.most ∧ (S3.kept.length : Int) ≤ S3.most ∧ S3.st.length ≤ i + 1 ∧ S.life ≤ S3.life ∧ (S3.life = S.life → S.floor ≤ S3.floor) ∧ Nw w0 W)) ?_ ?_
          · refine W_if rfl (fun h48 => ?_) (fun h48 => ?_)
            · refine W_region ?_
              refine L_run (.plain rfl) rfl rfl (r_move (v := .pointer _) rfl) ?_
              refine L_run (.plain rfl) rfl rfl (r_fieldb Try.underlying35 rfl (show _ = some 8 from rfl) rfl rfl (show _ = 1 from rfl)) ?_
              refine L_run (.plain rfl) rfl rfl (r_loadsub (us := [.int _ _, .int _ _, .int _ _, .int _ _, .int _ _, .string _, .int _ _, .string _]) Try.underlying33 rfl (show _ = some 8 from rfl) rfl (by (exact Bk.to (by assumption) (by (repeat (first | exact Sm.refl _ _ | (refine Sm.stepT (by assumption) (by intro hlt hsm; first | exact not_no | (intro he; have he2 : _ = some _ := he; have := own_base (by assumption) he2; omega) | (intro he; have he2 : _ = _ := he; omega) | (intro he; have he2 : _ = some _ := he; have := ow_base (by assumption) he2; omega) | (intro he; have := he.1; omega) | exact bk_not (by assumption) hsm rfl | exact mp_not (by assumption) hsm | exact bkm_not (by assumption) hsm rfl | (refine ownm_not ?_ hi hsm rfl <;> assumption) | (refine owm_not ?_ hi hsm rfl <;> assumption) | (refine own_not ?_ hi hsm rfl <;> assumption) | (refine ow_not ?_ hi hsm rfl <;> assumption) | (intro he; have he2 : _ = some _ := he; have := Ow.lt (by assumption) he2; omega) | (intro he; have he2 : _ = some _ := he; have := Ow.lt (by assumption) he2; have := own_base (by assumption) hi; omega) | (intro he; have he2 : _ = some _ := he; have := Ow.lt how he2; first | omega | (have := own_base (by assumption) hi; omega)) | (intro he; have he2 : _ = _ := he; have := Ow.lt how hi; omega) | (intro he; have he2 : _ = _ := he; have := own_base (by assumption) hi; omega) | (intro he; have he2 : _ = _ := he; have := ow_base (by assumption) hi; omega) | (intro he; have he2 : _ = _ := he; rw [he2] at hi; exact absurd hi (by assumption)) | (intro he; have he2 : _ = some _ := he; have h3 := own_lt (by assumption) he2; first | omega | (have h4 : _ = some _ := hi; simp [Value.ownBlock] at h4; omega)) | (intro he; have he2 : _ = some _ := he; have h3 := ow_base (by assumption) he2; have h4 : _ = some _ := hi; simp [Value.ownBlock] at h4; omega) | (intro he; have he2 : _ = some _ := he; exact absurd he2 (hsep _ hi)) | (intro he; first | exact absurd he (by assumption) | exact absurd he.symm (by assumption))) ?_)))))) rfl rfl) ?_
              refine L_call (.plain rfl) rfl rfl (r_call Try.func12 rfl rfl rfl (by rfl)) (recv_use w0.heap.size b bm _ _ (recv_eta S z[i].m) (hA.nw (by (repeat (first | exact Ch.refl _ | assumption | (refine Ch.fresh ?_ (by assumption) (by intro i hi he; first | exact he | exact (not_no he).elim | exact Or.inl he | exact Or.inr (Or.inl he) | exact Or.inr (Or.inr he) | (exfalso; have he2 : _ = some i := he; have := own_base (by assumption) he2; omega) | (exfalso; have he2 : i = _ := he; omega) | (exfalso; have he2 : _ = some i := he; have := ow_base (by assumption) he2; omega) | (exfalso; have := he.1; omega))))))) (by omega) (by omega) (by omega)) ?_
              rintro v52 w7 ⟨vs3', rfl, hA3', c7⟩
              have hz7 := c7.size
              obtain ⟨f1, f2, f3, f4, f5⟩ := recv_facts S z[i].m
              obtain ⟨S3', hS3'⟩ : ∃ x, x = (recv S z[i].m).1 := ⟨_, rfl⟩
              rw [← hS3'] at hA3' f1 f2 f3 f4 f5
              have f2' := f2 hkl
              refine L_nil ?_
              refine ⟨⟨rfl, rfl, rfl, rfl, rfl, rfl, trivial⟩, S3', vs3', trivial, ?_⟩
              first
                | exact ⟨hA3', f1, by omega, by omega, by omega, f5, by (repeat (first | exact Ch.refl _ | assumption | (refine Ch.fresh ?_ (by assumption) (by intro i hi he; first | exact he | exact (not_no he).elim | exact Or.inl he | exact Or.inr (Or.inl he) | exact Or.inr (Or.inr he) | (exfalso; have he2 : _ = some i := he; have := own_base (by assumption) he2; omega) | (exfalso; have he2 : i = _ := he; omega) | (exfalso; have he2 : _ = some i := he; have := ow_base (by assumption) he2; omega) | (exfalso; have := he.1; omega)))))⟩
                | exact ⟨hA3', f1, by omega, by rw [f3]; omega, by omega, fun _ => by omega, by (repeat (first | exact Ch.refl _ | assumption | (refine Ch.fresh ?_ (by assumption) (by intro i hi he; first | exact he | exact (not_no he).elim | exact Or.inl he | exact Or.inr (Or.inl he) | exact Or.inr (Or.inr he) | (exfalso; have he2 : _ = some i := he; have := own_base (by assumption) he2; omega) | (exfalso; have he2 : i = _ := he; omega) | (exfalso; have he2 : _ = some i := he; have := ow_base (by assumption) he2; omega) | (exfalso; have := he.1; omega)))))⟩
            · refine W_region ?_
              refine L_run (.plain rfl) rfl rfl (r_move (v := .pointer _) rfl) ?_
              refine L_run (.plain rfl) rfl rfl (r_fieldb Try.underlying35 rfl (show _ = some 8 from rfl) rfl rfl (show _ = 1 from rfl)) ?_
              refine L_run (.plain rfl) rfl rfl (r_fieldb Try.underlying33 rfl (show _ = some 1 from rfl) rfl rfl (show _ = 2 from rfl)) ?_
              refine L_run (.plain rfl) rfl rfl (r_loadb rfl rfl (by (exact Bk.to (by assumption) (by (repeat (first | exact Sm.refl _ _ | (refine Sm.stepT (by assumption) (by intro hlt hsm; first | exact not_no | (intro he; have he2 : _ = some _ := he; have := own_base (by assumption) he2; omega) | (intro he; have he2 : _ = _ := he; omega) | (intro he; have he2 : _ = some _ := he; have := ow_base (by assumption) he2; omega) | (intro he; have := he.1; omega) | exact bk_not (by assumption) hsm rfl | exact mp_not (by assumption) hsm | exact bkm_not (by assumption) hsm rfl | (refine ownm_not ?_ hi hsm rfl <;> assumption) | (refine owm_not ?_ hi hsm rfl <;> assumption) | (refine own_not ?_ hi hsm rfl <;> assumption) | (refine ow_not ?_ hi hsm rfl <;> assumption) | (intro he; have he2 : _ = some _ := he; have := Ow.lt (by assumption) he2; omega) | (intro he; have he2 : _ = some _ := he; have := Ow.lt (by assumption) he2; have := own_base (by assumption) hi; omega) | (intro he; have he2 : _ = some _ := he; have := Ow.lt how he2; first | omega | (have := own_base (by assumption) hi; omega)) | (intro he; have he2 : _ = _ := he; have := Ow.lt how hi; omega) | (intro he; have he2 : _ = _ := he; have := own_base (by assumption) hi; omega) | (intro he; have he2 : _ = _ := he; have := ow_base (by assumption) hi; omega) | (intro he; have he2 : _ = _ := he; rw [he2] at hi; exact absurd hi (by assumption)) | (intro he; have he2 : _ = some _ := he; have h3 := own_lt (by assumption) he2; first | omega | (have h4 : _ = some _ := hi; simp [Value.ownBlock] at h4; omega)) | (intro he; have he2 : _ = some _ := he; have h3 := ow_base (by assumption) he2; have h4 : _ = some _ := hi; simp [Value.ownBlock] at h4; omega) | (intro he; have he2 : _ = some _ := he; exact absurd he2 (hsep _ hi)) | (intro he; first | exact absurd he (by assumption) | exact absurd he.symm (by assumption))) ?_)))))) (by first | assumption | (conv => lhs; simp only [List.getElem?_toArray, List.getElem?_cons_succ, List.getElem?_cons_zero]))) ?_
              refine L_run (.plain rfl) rfl rfl (r_fieldb Try.underlying35 rfl (show _ = some 8 from rfl) rfl rfl (show _ = 1 from rfl)) ?_
              refine L_run (.plain rfl) rfl rfl (r_fieldb Try.underlying33 rfl (show _ = some 1 from rfl) rfl rfl (show _ = 3 from rfl)) ?_
              refine L_run (.plain rfl) rfl rfl (r_loadb rfl rfl (by (exact Bk.to (by assumption) (by (repeat (first | exact Sm.refl _ _ | (refine Sm.stepT (by assumption) (by intro hlt hsm; first | exact not_no | (intro he; have he2 : _ = some _ := he; have := own_base (by assumption) he2; omega) | (intro he; have he2 : _ = _ := he; omega) | (intro he; have he2 : _ = some _ := he; have := ow_base (by assumption) he2; omega) | (intro he; have := he.1; omega) | exact bk_not (by assumption) hsm rfl | exact mp_not (by assumption) hsm | exact bkm_not (by assumption) hsm rfl | (refine ownm_not ?_ hi hsm rfl <;> assumption) | (refine owm_not ?_ hi hsm rfl <;> assumption) | (refine own_not ?_ hi hsm rfl <;> assumption) | (refine ow_not ?_ hi hsm rfl <;> assumption) | (intro he; have he2 : _ = some _ := he; have := Ow.lt (by assumption) he2; omega) | (intro he; have he2 : _ = some _ := he; have := Ow.lt (by assumption) he2; have := own_base (by assumption) hi; omega) | (intro he; have he2 : _ = some _ := he; have := Ow.lt how he2; first | omega | (have := own_base (by assumption) hi; omega)) | (intro he; have he2 : _ = _ := he; have := Ow.lt how hi; omega) | (intro he; have he2 : _ = _ := he; have := own_base (by assumption) hi; omega) | (intro he; have he2 : _ = _ := he; have := ow_base (by assumption) hi; omega) | (intro he; have he2 : _ = _ := he; rw [he2] at hi; exact absurd hi (by assumption)) | (intro he; have he2 : _ = some _ := he; have h3 := own_lt (by assumption) he2; first | omega | (have h4 : _ = some _ := hi; simp [Value.ownBlock] at h4; omega)) | (intro he; have he2 : _ = some _ := he; have h3 := ow_base (by assumption) he2; have h4 : _ = some _ := hi; simp [Value.ownBlock] at h4; omega) | (intro he; have he2 : _ = some _ := he; exact absurd he2 (hsep _ hi)) | (intro he; first | exact absurd he (by assumption) | exact absurd he.symm (by assumption))) ?_)))))) (by first | assumption | (conv => lhs; simp only [List.getElem?_toArray, List.getElem?_cons_succ, List.getElem?_cons_zero]))) ?_
              refine L_run (.plain rfl) rfl rfl (r_fieldb Try.underlying35 rfl (show _ = some 8 from rfl) rfl rfl (show _ = 1 from rfl)) ?_
              refine L_run (.plain rfl) rfl rfl (r_fieldb Try.underlying33 rfl (show _ = some 1 from rfl) rfl rfl (show _ = 7 from rfl)) ?_
              refine L_run (.plain rfl) rfl rfl (r_loadb rfl rfl (by (exact Bk.to (by assumption) (by (repeat (first | exact Sm.refl _ _ | (refine Sm.stepT (by assumption) (by intro hlt hsm; first | exact not_no | (intro he; have he2 : _ = some _ := he; have := own_base (by assumption) he2; omega) | (intro he; have he2 : _ = _ := he; omega) | (intro he; have he2 : _ = some _ := he; have := ow_base (by assumption) he2; omega) | (intro he; have := he.1; omega) | exact bk_not (by assumption) hsm rfl | exact mp_not (by assumption) hsm | exact bkm_not (by assumption) hsm rfl | (refine ownm_not ?_ hi hsm rfl <;> assumption) | (refine owm_not ?_ hi hsm rfl <;> assumption) | (refine own_not ?_ hi hsm rfl <;> assumption) | (refine ow_not ?_ hi hsm rfl <;> assumption) | (intro he; have he2 : _ = some _ := he; have := Ow.lt (by assumption) he2; omega) | (intro he; have he2 : _ = some _ := he; have := Ow.lt (by assumption) he2; have := own_base (by assumption) hi; omega) | (intro he; have he2 : _ = some _ := he; have := Ow.lt how he2; first | omega | (have := own_base (by assumption) hi; omega)) | (intro he; have he2 : _ = _ := he; have := Ow.lt how hi; omega) | (intro he; have he2 : _ = _ := he; have := own_base (by assumption) hi; omega) | (intro he; have he2 : _ = _ := he; have := ow_base (by assumption) hi; omega) | (intro he; have he2 : _ = _ := he; rw [he2] at hi; exact absurd hi (by assumption)) | (intro he; have he2 : _ = some _ := he; have h3 := own_lt (by assumption) he2; first | omega | (have h4 : _ = some _ := hi; simp [Value.ownBlock] at h4; omega)) | (intro he; have he2 : _ = some _ := he; have h3 := ow_base (by assumption) he2; have h4 : _ = some _ := hi; simp [Value.ownBlock] at h4; omega) | (intro he; have he2 : _ = some _ := he; exact absurd he2 (hsep _ hi)) | (intro he; first | exact absurd he (by assumption) | exact absurd he.symm (by assumption))) ?_)))))) (by first | assumption | (conv => lhs; simp only [List.getElem?_toArray, List.getElem?_cons_succ, List.getElem?_cons_zero]))) ?_
              refine L_run (.plain rfl) rfl rfl (r_fieldb Try.underlying35 rfl (show _ = some 8 from rfl) rfl rfl (show _ = 1 from rfl)) ?_
              refine L_run (.plain rfl) rfl rfl (r_fieldb Try.underlying33 rfl (show _ = some 1 from rfl) rfl rfl (show _ = 8 from rfl)) ?_
              refine L_run (.plain rfl) rfl rfl (r_loadb rfl rfl (by (exact Bk.to (by assumption) (by (repeat (first | exact Sm.refl _ _ | (refine Sm.stepT (by assumption) (by intro hlt hsm; first | exact not_no | (intro he; have he2 : _ = some _ := he; have := own_base (by assumption) he2; omega) | (intro he; have he2 : _ = _ := he; omega) | (intro he; have he2 : _ = some _ := he; have := ow_base (by assumption) he2; omega) | (intro he; have := he.1; omega) | exact bk_not (by assumption) hsm rfl | exact mp_not (by assumption) hsm | exact bkm_not (by assumption) hsm rfl | (refine ownm_not ?_ hi hsm rfl <;> assumption) | (refine owm_not ?_ hi hsm rfl <;> assumption) | (refine own_not ?_ hi hsm rfl <;> assumption) | (refine ow_not ?_ hi hsm rfl <;> assumption) | (intro he; have he2 : _ = some _ := he; have := Ow.lt (by assumption) he2; omega) | (intro he; have he2 : _ = some _ := he; have := Ow.lt (by assumption) he2; have := own_base (by assumption) hi; omega) | (intro he; have he2 : _ = some _ := he; have := Ow.lt how he2; first | omega | (have := own_base (by assumption) hi; omega)) | (intro he; have he2 : _ = _ := he; have := Ow.lt how hi; omega) | (intro he; have he2 : _ = _ := he; have := own_base (by assumption) hi; omega) | (intro he; have he2 : _ = _ := he; have := ow_base (by assumption) hi; omega) | (intro he; have he2 : _ = _ := he; rw [he2] at hi; exact absurd hi (by assumption)) | (intro he; have he2 : _ = some _ := he; have h3 := own_lt (by assumption) he2; first | omega | (have h4 : _ = some _ := hi; simp [Value.ownBlock] at h4; omega)) | (intro he; have he2 : _ = some _ := he; have h3 := ow_base (by assumption) he2; have h4 : _ = some _ := hi; simp [Value.ownBlock] at h4; omega) | (intro he; have he2 : _ = some _ := he; exact absurd he2 (hsep _ hi)) | (intro he; first | exact absurd he (by assumption) | exact absurd he.symm (by assumption))) ?_)))))) (by first | assumption | (conv => lhs; simp only [List.getElem?_toArray, List.getElem?_cons_succ, List.getElem?_cons_zero]))) ?_
              refine L_call (.plain rfl) rfl rfl (r_call Try.func14 rfl rfl rfl (by rfl)) (fin_use w0.heap.size b bm _ _ (fin_eta S z[i].m.life z[i].m.seq z[i].m.way z[i].m.body) (hA.nw (by (repeat (first | exact Ch.refl _ | assumption | (refine Ch.fresh ?_ (by assumption) (by intro i hi he; first | exact he | exact (not_no he).elim | exact Or.inl he | exact Or.inr (Or.inl he) | exact Or.inr (Or.inr he) | (exfalso; have he2 : _ = some i := he; have := own_base (by assumption) he2; omega) | (exfalso; have he2 : i = _ := he; omega) | (exfalso; have he2 : _ = some i := he; have := ow_base (by assumption) he2; omega) | (exfalso; have := he.1; omega))))))) (by omega)) ?_
              rintro v66 w8 ⟨rfl, hA3', c8⟩
              have hz8 := c8.size
              obtain ⟨f1, f2', f3, f4, f5⟩ := fin_facts S z[i].m.life z[i].m.seq z[i].m.way z[i].m.body
              obtain ⟨S3', hS3'⟩ : ∃ x, x = (fin S z[i].m.life z[i].m.seq z[i].m.way z[i].m.body).1 := ⟨_, rfl⟩
              obtain ⟨vs3', hvs3'⟩ : ∃ x, x = vs := ⟨_, rfl⟩
              rw [← hS3', ← hvs3'] at hA3'
              rw [← hS3'] at f1 f2' f3 f4 f5
              refine L_nil ?_
              refine ⟨⟨rfl, rfl, rfl, rfl, rfl, rfl, trivial⟩, S3', vs3', trivial, ?_⟩
              first
                | exact ⟨hA3', f1, by omega, by omega, by omega, f5, by (repeat (first | exact Ch.refl _ | assumption | (refine Ch.fresh ?_ (by assumption) (by intro i hi he; first | exact he | exact (not_no he).elim | exact Or.inl he | exact Or.inr (Or.inl he) | exact Or.inr (Or.inr he) | (exfalso; have he2 : _ = some i := he; have := own_base (by assumption) he2; omega) | (exfalso; have he2 : i = _ := he; omega) | (exfalso; have he2 : _ = some i := he; have := ow_base (by assumption) he2; omega) | (exfalso; have := he.1; omega)))))⟩
                | exact ⟨hA3', f1, by omega, by rw [f3]; omega, by omega, fun _ => by omega, by (repeat (first | exact Ch.refl _ | assumption | (refine Ch.fresh ?_ (by assumption) (by intro i hi he; first | exact he | exact (not_no he).elim | exact Or.inl he | exact Or.inr (Or.inl he) | exact Or.inr (Or.inr he) | (exfalso; have he2 : _ = some i := he; have := own_base (by assumption) he2; omega) | (exfalso; have he2 : i = _ := he; omega) | (exfalso; have he2 : _ = some i := he; have := ow_base (by assumption) he2; omega) | (exfalso; have := he.1; omega)))))⟩
          rintro gct48 w9 ⟨S3, vs3, -, hCt48⟩
          obtain ⟨hA3, hm3, hk3, hs3', hl3, hf3, hnw3⟩ := hCt48
          clear hSx hvx
          obtain ⟨Sx, hSx⟩ : ∃ x, x = S3 := ⟨_, rfl⟩
          obtain ⟨vx, hvx⟩ : ∃ x, x = vs3 := ⟨_, rfl⟩
          refine W_seq ?_
          refine W_seq ?_
          refine W_region ?_
          refine L_run (.plain rfl) rfl rfl (r_move (v := .pointer _) rfl) ?_
          refine L_call (.plain rfl) rfl rfl (r_call Try.func15 rfl rfl rfl (by rfl)) (kept_walk w0.heap.size b bm vs3 S3 _ (hA3.nw (by (repeat (first | exact Ch.refl _ | assumption | (refine Ch.fresh ?_ (by assumption) (by intro i hi he; first | exact he | exact (not_no he).elim | exact Or.inl he | exact Or.inr (Or.inl he) | exact Or.inr (Or.inr he) | (exfalso; have he2 : _ = some i := he; have := own_base (by assumption) he2; omega) | (exfalso; have he2 : i = _ := he; omega) | (exfalso; have he2 : _ = some i := he; have := ow_base (by assumption) he2; omega) | (exfalso; have := he.1; omega)))))))) ?_
          rintro v68 w10 ⟨rfl, rfl⟩
          refine L_run (.plain rfl) rfl rfl (r_move (v := .int _ _) rfl) ?_
          refine L_run (.plain rfl) rfl rfl (r_conv Try.underlying5 Try.underlying3 rfl (by first | exact wr_i64 (by omega) | rfl)) ?_
          refine L_run (.plain rfl) rfl rfl (r_remn rfl rfl (by omega) (by omega)) ?_
          refine L_run (.plain rfl) rfl rfl (r_add rfl rfl (by first | exact wr_i64 (by omega) | rfl)) ?_
          refine L_run (.plain rfl) rfl rfl (r_gtr rfl rfl) ?_
          refine L_run (.plain rfl) rfl rfl (r_move (v := .bool _) rfl) ?_
          refine L_case (d := 74) rfl (fun h74 => ?_) (fun h74 => ?_)
          · omega
          · refine L_run (.yes 7 false rfl rfl) rfl rfl (r_move (v := .pointer _) rfl) ?_
            refine L_call (.yes 7 false rfl rfl) rfl rfl (r_call Try.func17 rfl rfl rfl (by rfl)) (life_walk w0.heap.size b bm vs3 S3 _ (hA3.nw (by (repeat (first | exact Ch.refl _ | assumption | (refine Ch.fresh ?_ (by assumption) (by intro i hi he; first | exact he | exact (not_no he).elim | exact Or.inl he | exact Or.inr (Or.inl he) | exact Or.inr (Or.inr he) | (exfalso; have he2 : _ = some i := he; have := own_base (by assumption) he2; omega) | (exfalso; have he2 : i = _ := he; omega) | (exfalso; have he2 : _ = some i := he; have := ow_base (by assumption) he2; omega) | (exfalso; have := he.1; omega)))))))) ?_
            rintro v76 w11 ⟨rfl, rfl⟩
            refine L_run (.yes 7 false rfl rfl) rfl rfl (r_move (v := .int _ _) rfl) ?_
            refine L_run (.yes 7 false rfl rfl) rfl rfl (r_lss rfl rfl) ?_
            refine L_run (.plain rfl) rfl rfl (r_pick_f (v := .bool _) rfl rfl) ?_
            refine L_run (.plain rfl) rfl rfl (r_move (v := .bool _) rfl) ?_
            refine L_case (d := 80) rfl (fun h80 => ?_) (fun h80 => ?_)
            · omega
            · refine L_run (.yes 13 false rfl rfl) rfl rfl (r_move (v := .pointer _) rfl) ?_
              refine L_call (.yes 13 false rfl rfl) rfl rfl (r_call Try.func17 rfl rfl rfl (by rfl)) (life_walk w0.heap.size b bm vs3 S3 _ (hA3.nw (by (repeat (first | exact Ch.refl _ | assumption | (refine Ch.fresh ?_ (by assumption) (by intro i hi he; first | exact he | exact (not_no he).elim | exact Or.inl he | exact Or.inr (Or.inl he) | exact Or.inr (Or.inr he) | (exfalso; have he2 : _ = some i := he; have := own_base (by assumption) he2; omega) | (exfalso; have he2 : i = _ := he; omega) | (exfalso; have he2 : _ = some i := he; have := ow_base (by assumption) he2; omega) | (exfalso; have := he.1; omega)))))))) ?_
              rintro v82 w12 ⟨rfl, rfl⟩
              refine L_run (.yes 13 false rfl rfl) rfl rfl (r_move (v := .int _ _) rfl) ?_
              refine L_run (.yes 13 false rfl rfl) rfl rfl (r_eql rfl rfl) ?_
              refine L_run (.yes 13 false rfl rfl) rfl rfl (r_move (v := .bool _) rfl) ?_
              refine L_case (d := 85) rfl (fun h85 => ?_) (fun h85 => ?_)
              · refine L_run (.yes 18 true rfl rfl) rfl rfl (r_move (v := .pointer _) rfl) ?_
                refine L_call (.yes 18 true rfl rfl) rfl rfl (r_call Try.func18 rfl rfl rfl (by rfl)) (floor_walk w0.heap.size b bm vs3 S3 _ (hA3.nw (by (repeat (first | exact Ch.refl _ | assumption | (refine Ch.fresh ?_ (by assumption) (by intro i hi he; first | exact he | exact (not_no he).elim | exact Or.inl he | exact Or.inr (Or.inl he) | exact Or.inr (Or.inr he) | (exfalso; have he2 : _ = some i := he; have := own_base (by assumption) he2; omega) | (exfalso; have he2 : i = _ := he; omega) | (exfalso; have he2 : _ = some i := he; have := ow_base (by assumption) he2; omega) | (exfalso; have := he.1; omega)))))))) ?_
                rintro v87 w13 ⟨rfl, rfl⟩
                refine L_run (.yes 18 true rfl rfl) rfl rfl (r_move (v := .int _ _) rfl) ?_
                refine L_run (.yes 18 true rfl rfl) rfl rfl (r_lss rfl rfl) ?_
                refine L_run (.yes 13 false rfl rfl) rfl rfl (r_pick_t (v := .bool _) rfl rfl) ?_
                refine L_run (.plain rfl) rfl rfl (r_pick_f (v := .bool _) rfl rfl) ?_
                refine L_nil ?_
                refine W_if rfl (fun h91 => ?_) (fun h91 => ?_)
                · (have := hf3 (by omega); omega)
                · refine W_skip ?_
                  refine W_region ?_
                  refine L_run (.plain rfl) rfl rfl (r_move (v := .pointer _) rfl) ?_
                  refine L_call (.plain rfl) rfl rfl (r_call Try.func17 rfl rfl rfl (by rfl)) (life_walk w0.heap.size b bm vs3 S3 _ (hA3.nw (by (repeat (first | exact Ch.refl _ | assumption | (refine Ch.fresh ?_ (by assumption) (by intro i hi he; first | exact he | exact (not_no he).elim | exact Or.inl he | exact Or.inr (Or.inl he) | exact Or.inr (Or.inr he) | (exfalso; have he2 : _ = some i := he; have := own_base (by assumption) he2; omega) | (exfalso; have he2 : i = _ := he; omega) | (exfalso; have he2 : _ = some i := he; have := ow_base (by assumption) he2; omega) | (exfalso; have := he.1; omega)))))))) ?_
                  rintro v93 w14 ⟨rfl, rfl⟩
                  refine L_run (.plain rfl) rfl rfl (r_move (v := .pointer _) rfl) ?_
                  refine L_call (.plain rfl) rfl rfl (r_call Try.func18 rfl rfl rfl (by rfl)) (floor_walk w0.heap.size b bm vs3 S3 _ (hA3.nw (by (repeat (first | exact Ch.refl _ | assumption | (refine Ch.fresh ?_ (by assumption) (by intro i hi he; first | exact he | exact (not_no he).elim | exact Or.inl he | exact Or.inr (Or.inl he) | exact Or.inr (Or.inr he) | (exfalso; have he2 : _ = some i := he; have := own_base (by assumption) he2; omega) | (exfalso; have he2 : i = _ := he; omega) | (exfalso; have he2 : _ = some i := he; have := ow_base (by assumption) he2; omega) | (exfalso; have := he.1; omega)))))))) ?_
                  rintro v95 w15 ⟨rfl, rfl⟩
                  refine L_run (.plain rfl) rfl rfl (r_assign (v := .int _ _) rfl) ?_
                  refine L_run (.plain rfl) rfl rfl (r_assign (v := .int _ _) rfl) ?_
                  refine L_nil ?_
                  refine ⟨⟨rfl, rfl, rfl, rfl, trivial⟩, Sx, vx, (by rw [hSx]; rfl), (by rw [hSx]; rfl), ?_⟩
                  first
                    | (subst hSx hvx
                       exact ⟨by omega, by omega, hA.nw (by (repeat (first | exact Ch.refl _ | assumption | (refine Ch.fresh ?_ (by assumption) (by intro i hi he; first | exact he | exact (not_no he).elim | exact Or.inl he | exact Or.inr (Or.inl he) | exact Or.inr (Or.inr he) | (exfalso; have he2 : _ = some i := he; have := own_base (by assumption) he2; omega) | (exfalso; have he2 : i = _ := he; omega) | (exfalso; have he2 : _ = some i := he; have := ow_base (by assumption) he2; omega) | (exfalso; have := he.1; omega)))))), hmo, hkl, by omega, by (repeat (first | exact Ch.refl _ | assumption | (refine Ch.fresh ?_ (by assumption) (by intro i hi he; first | exact he | exact (not_no he).elim | exact Or.inl he | exact Or.inr (Or.inl he) | exact Or.inr (Or.inr he) | (exfalso; have he2 : _ = some i := he; have := own_base (by assumption) he2; omega) | (exfalso; have he2 : i = _ := he; omega) | (exfalso; have he2 : _ = some i := he; have := ow_base (by assumption) he2; omega) | (exfalso; have := he.1; omega)))))⟩)
                    | (subst hSx hvx
                       exact ⟨by omega, by omega, hA3.nw (by (repeat (first | exact Ch.refl _ | assumption | (refine Ch.fresh ?_ (by assumption) (by intro i hi he; first | exact he | exact (not_no he).elim | exact Or.inl he | exact Or.inr (Or.inl he) | exact Or.inr (Or.inr he) | (exfalso; have he2 : _ = some i := he; have := own_base (by assumption) he2; omega) | (exfalso; have he2 : i = _ := he; omega) | (exfalso; have he2 : _ = some i := he; have := ow_base (by assumption) he2; omega) | (exfalso; have := he.1; omega)))))), by omega, hk3, by omega, by (repeat (first | exact Ch.refl _ | assumption | (refine Ch.fresh ?_ (by assumption) (by intro i hi he; first | exact he | exact (not_no he).elim | exact Or.inl he | exact Or.inr (Or.inl he) | exact Or.inr (Or.inr he) | (exfalso; have he2 : _ = some i := he; have := own_base (by assumption) he2; omega) | (exfalso; have he2 : i = _ := he; omega) | (exfalso; have he2 : _ = some i := he; have := ow_base (by assumption) he2; omega) | (exfalso; have := he.1; omega)))))⟩)
              · refine L_pass rfl rfl rfl rfl rfl ?_
                refine L_pass rfl rfl rfl rfl rfl ?_
                refine L_pass rfl rfl rfl rfl rfl ?_
                refine L_pass rfl rfl rfl rfl rfl ?_
                refine L_run (.yes 13 false rfl rfl) rfl rfl (r_pick_f (v := .bool _) rfl rfl) ?_
                refine L_run (.plain rfl) rfl rfl (r_pick_f (v := .bool _) rfl rfl) ?_
                refine L_nil ?_
                refine W_false rfl ?_
                refine W_skip ?_
                refine W_region ?_
                refine L_run (.plain rfl) rfl rfl (r_move (v := .pointer _) rfl) ?_
                refine L_call (.plain rfl) rfl rfl (r_call Try.func17 rfl rfl rfl (by rfl)) (life_walk w0.heap.size b bm vs3 S3 _ (hA3.nw (by (repeat (first | exact Ch.refl _ | assumption | (refine Ch.fresh ?_ (by assumption) (by intro i hi he; first | exact he | exact (not_no he).elim | exact Or.inl he | exact Or.inr (Or.inl he) | exact Or.inr (Or.inr he) | (exfalso; have he2 : _ = some i := he; have := own_base (by assumption) he2; omega) | (exfalso; have he2 : i = _ := he; omega) | (exfalso; have he2 : _ = some i := he; have := ow_base (by assumption) he2; omega) | (exfalso; have := he.1; omega)))))))) ?_
                rintro v93 w16 ⟨rfl, rfl⟩
                refine L_run (.plain rfl) rfl rfl (r_move (v := .pointer _) rfl) ?_
                refine L_call (.plain rfl) rfl rfl (r_call Try.func18 rfl rfl rfl (by rfl)) (floor_walk w0.heap.size b bm vs3 S3 _ (hA3.nw (by (repeat (first | exact Ch.refl _ | assumption | (refine Ch.fresh ?_ (by assumption) (by intro i hi he; first | exact he | exact (not_no he).elim | exact Or.inl he | exact Or.inr (Or.inl he) | exact Or.inr (Or.inr he) | (exfalso; have he2 : _ = some i := he; have := own_base (by assumption) he2; omega) | (exfalso; have he2 : i = _ := he; omega) | (exfalso; have he2 : _ = some i := he; have := ow_base (by assumption) he2; omega) | (exfalso; have := he.1; omega)))))))) ?_
                rintro v95 w17 ⟨rfl, rfl⟩
                refine L_run (.plain rfl) rfl rfl (r_assign (v := .int _ _) rfl) ?_
                refine L_run (.plain rfl) rfl rfl (r_assign (v := .int _ _) rfl) ?_
                refine L_nil ?_
                refine ⟨⟨rfl, rfl, rfl, rfl, trivial⟩, Sx, vx, (by rw [hSx]; rfl), (by rw [hSx]; rfl), ?_⟩
                first
                  | (subst hSx hvx
                     exact ⟨by omega, by omega, hA.nw (by (repeat (first | exact Ch.refl _ | assumption | (refine Ch.fresh ?_ (by assumption) (by intro i hi he; first | exact he | exact (not_no he).elim | exact Or.inl he | exact Or.inr (Or.inl he) | exact Or.inr (Or.inr he) | (exfalso; have he2 : _ = some i := he; have := own_base (by assumption) he2; omega) | (exfalso; have he2 : i = _ := he; omega) | (exfalso; have he2 : _ = some i := he; have := ow_base (by assumption) he2; omega) | (exfalso; have := he.1; omega)))))), hmo, hkl, by omega, by (repeat (first | exact Ch.refl _ | assumption | (refine Ch.fresh ?_ (by assumption) (by intro i hi he; first | exact he | exact (not_no he).elim | exact Or.inl he | exact Or.inr (Or.inl he) | exact Or.inr (Or.inr he) | (exfalso; have he2 : _ = some i := he; have := own_base (by assumption) he2; omega) | (exfalso; have he2 : i = _ := he; omega) | (exfalso; have he2 : _ = some i := he; have := ow_base (by assumption) he2; omega) | (exfalso; have := he.1; omega)))))⟩)
                  | (subst hSx hvx
                     exact ⟨by omega, by omega, hA3.nw (by (repeat (first | exact Ch.refl _ | assumption | (refine Ch.fresh ?_ (by assumption) (by intro i hi he; first | exact he | exact (not_no he).elim | exact Or.inl he | exact Or.inr (Or.inl he) | exact Or.inr (Or.inr he) | (exfalso; have he2 : _ = some i := he; have := own_base (by assumption) he2; omega) | (exfalso; have he2 : i = _ := he; omega) | (exfalso; have he2 : _ = some i := he; have := ow_base (by assumption) he2; omega) | (exfalso; have := he.1; omega)))))), by omega, hk3, by omega, by (repeat (first | exact Ch.refl _ | assumption | (refine Ch.fresh ?_ (by assumption) (by intro i hi he; first | exact he | exact (not_no he).elim | exact Or.inl he | exact Or.inr (Or.inl he) | exact Or.inr (Or.inr he) | (exfalso; have he2 : _ = some i := he; have := own_base (by assumption) he2; omega) | (exfalso; have he2 : i = _ := he; omega) | (exfalso; have he2 : _ = some i := he; have := ow_base (by assumption) he2; omega) | (exfalso; have := he.1; omega)))))⟩)
      rintro gcb1 w18 ⟨S2, vs2, hf7, hf8, hCb1⟩
      refine W_as 7 hf7 rfl ?_
      refine W_as 8 hf8 rfl ?_
      clear hf7 hf8
      refine W_region ?_
      refine L_run (.plain rfl) rfl rfl (r_move (v := .int _ _) rfl) ?_
      refine L_run (.plain rfl) rfl rfl (r_add rfl rfl (by first | exact wr_i64 (by omega) | rfl)) ?_
      refine L_run (.plain rfl) rfl rfl (r_assign (v := .int _ _) rfl) ?_
      refine L_nil ?_
      refine ⟨⟨rfl, rfl, rfl, trivial⟩, _, ?_, i + 1, S2, vs2, rfl, rfl, rfl, ?_, rfl⟩
      · omega
      exact hCb1
    · refine W_exit ?_
      repeat (first | refine blk_hit ?_ | refine blk_miss rfl ?_)
      refine W_seq ?_
      refine W_region ?_
      refine L_run (.plain rfl) rfl rfl (r_assign (v := .bool _) rfl) ?_
      refine L_nil ?_
      refine W_ret ?_
      refine ret1 (v := .bool _) rfl rfl ?_
      exact ⟨rfl, by (repeat (first | exact Ch.refl _ | assumption | (refine Ch.fresh ?_ (by assumption) (by intro i hi he; first | exact he | exact (not_no he).elim | exact Or.inl he | exact Or.inr (Or.inl he) | exact Or.inr (Or.inr he) | (exfalso; have he2 : _ = some i := he; have := own_base (by assumption) he2; omega) | (exfalso; have he2 : i = _ := he; omega) | (exfalso; have he2 : _ = some i := he; have := ow_base (by assumption) he2; omega) | (exfalso; have := he.1; omega)))))⟩
  · refine L_pass rfl rfl rfl rfl rfl ?_
    refine L_pass rfl rfl rfl rfl rfl ?_
    refine L_run (.plain rfl) rfl rfl (r_pick_f (v := .bool _) rfl rfl) ?_
    refine L_nil ?_
    refine W_false rfl ?_
    refine W_exit ?_
    repeat (first | refine blk_hit ?_ | refine blk_miss rfl ?_)
    refine W_seq ?_
    refine W_region ?_
    refine L_run (.plain rfl) rfl rfl (r_assign (v := .bool _) rfl) ?_
    refine L_nil ?_
    refine W_ret ?_
    refine ret1 (v := .bool _) rfl rfl ?_
    exact ⟨rfl, by (repeat (first | exact Ch.refl _ | assumption | (refine Ch.fresh ?_ (by assumption) (by intro i hi he; first | exact he | exact (not_no he).elim | exact Or.inl he | exact Or.inr (Or.inl he) | exact Or.inr (Or.inr he) | (exfalso; have he2 : _ = some i := he; have := own_base (by assumption) he2; omega) | (exfalso; have he2 : i = _ := he; omega) | (exfalso; have he2 : _ = some i := he; have := ow_base (by assumption) he2; omega) | (exfalso; have := he.1; omega)))))⟩
end Go.Proofs.Ythpclaoniljfbaa

