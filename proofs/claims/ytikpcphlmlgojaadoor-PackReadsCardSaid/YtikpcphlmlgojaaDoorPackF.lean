/- What is written, by the document; things to write, as an argument. -/
import Derived.Test.YtikpcphlmlgojaaDoorPackL1
namespace Go.Proofs.YtikpcphlmlgojaaDoor
open Go Go.RowKit
set_option linter.unusedVariables false
set_option linter.unusedSimpArgs false
structure Fld where
  kind : Int
  most : Int
  n : Nat
  i : Int
  yes : Bool
  s : ByteArray
instance : Inhabited Fld := ⟨⟨0, 0, 0, 0, false, ByteArray.empty⟩⟩
def fldCells (f : Fld) : List Value := [.int .i64 f.kind, .int .i64 f.most, .int .u64 f.n, .int .i64 f.i, .bool f.yes, .string f.s]
def Fld.Ok (f : Fld) : Prop := f.n ≤ 18446744073709551615 ∧ -9223372036854775808 ≤ f.i ∧ f.i ≤ 9223372036854775807
def cellsF (z : List Fld) : List Value := z.flatMap fldCells
theorem cellsF_row : ∀ (z : List Fld) (i : Nat) (h : i < z.length) (j : Nat) (u : Value), (fldCells z[i])[j]? = some u → (cellsF z)[i * 6 + j]? = some u
  | x :: z, 0, _, j, u, hj => by
    have hj5 : j < 6 := by have := (List.getElem?_eq_some_iff.1 hj).1; simpa [fldCells] using this
    simp only [cellsF, List.flatMap_cons, Nat.zero_mul, Nat.zero_add]
    rw [List.getElem?_append_left (by simpa [fldCells] using hj5)]
    exact hj
  | x :: z, i + 1, h, j, u, hj => by
    have := cellsF_row z i (by simpa using h) j u hj
    simp only [cellsF, List.flatMap_cons]
    rw [List.getElem?_append_right (by simp [fldCells]; omega)]
    rw [show (i + 1) * 6 + j - (fldCells x).length = i * 6 + j by simp [fldCells]; omega]
    exact this
theorem st_at {H : Type} {enc : TypeId × Value → H} {P : Program} {W : World} {n : Nat} {cs : List Value} {fs : Array Field} {xs : List (DataW H × List MemPlace)} (hl : xs.length = fs.size)
    (hf : ∀ (i : Nat) (f : Field), fs[i]? = some f → DataW.trod enc P W 0 (fun _ => true) true n f.type ((cs.drop f.offset).take (P.cellsOf f.type)) = xs[i]?) (i : Nat) (f : Field) (h : fs[i]? = some f) :
    ∃ y, DataW.trod enc P W 0 (fun _ => true) true n f.type ((cs.drop f.offset).take (P.cellsOf f.type)) = some y := by
  have hi : i < xs.length := by rw [hl]; exact (Array.getElem?_eq_some_iff.1 h).1
  exact ⟨xs[i], by rw [hf i f h, List.getElem?_eq_getElem hi]⟩
theorem wf_u64 {n : Int} (h : (Lit.int .u64 n).wf = true) : 0 ≤ n ∧ n ≤ 18446744073709551615 := by simpa [Lit.wf, IntKind.min, IntKind.max, IntKind.signed, IntKind.bits] using h
theorem wf_i64 {n : Int} (h : (Lit.int .i64 n).wf = true) : -9223372036854775808 ≤ n ∧ n ≤ 9223372036854775807 := by simpa [Lit.wf, IntKind.min, IntKind.max, IntKind.signed, IntKind.bits] using h
theorem rd_31 {H : Type} {enc : TypeId × Value → H} {W : World} {b0 j : Nat} {v : Value} {d : DataW H} {p : List MemPlace} {R : Prop} (_ : R) (_ : 0 = 0) (_ : 0 = 0)
    (hok : Value.okWide Tryd.prog W .any b0 31 v) (h : DataW.Trod enc Tryd.prog W 0 (fun _ => true) true 31 v d p) : ∃ z : List Fld, Sl W v 6 z.length (cellsF z) ∧ ∀ f ∈ z, f.Ok := by
  obtain ⟨z, hz, hq⟩ := sl_arg fldCells 6 Fld.Ok (fun _ => rfl) Tryd.underlying31 rfl (fun n cs y hy => by
    obtain ⟨xs, m, _, _, hl, hxl, hf⟩ := DataW.trod_struct Tryd.underlying35 hy
    have hl5 : cs.length = 6 := hl
    match cs, hl5 with
    | [c0, c1, c2, c3, c4, c5], _ =>
      obtain ⟨y0, g0⟩ := st_at hxl hf 0 _ rfl
      obtain ⟨y1, g1⟩ := st_at hxl hf 1 _ rfl
      obtain ⟨y2, g2⟩ := st_at hxl hf 2 _ rfl
      obtain ⟨y3, g3⟩ := st_at hxl hf 3 _ rfl
      obtain ⟨y4, g4⟩ := st_at hxl hf 4 _ rfl
      obtain ⟨y5, g5⟩ := st_at hxl hf 5 _ rfl
      obtain ⟨n0, e0, _⟩ := DataW.trod_int Tryd.underlying3 g0
      obtain ⟨n1, e1, _⟩ := DataW.trod_int Tryd.underlying3 g1
      obtain ⟨n2, e2, _, k2⟩ := DataW.trod_int Tryd.underlying22 g2
      obtain ⟨n3, e3, _, k3⟩ := DataW.trod_int Tryd.underlying2 g3
      obtain ⟨n4, e4, _⟩ := DataW.trod_bool Tryd.underlying4 g4
      obtain ⟨n5, e5, _⟩ := DataW.trod_string Tryd.underlying9 g5
      have f0 : c0 = .int .i64 n0 := (List.cons.inj e0).1
      have f1 : c1 = .int .i64 n1 := (List.cons.inj e1).1
      have f2 : c2 = .int .u64 n2 := (List.cons.inj e2).1
      have f3 : c3 = .int .i64 n3 := (List.cons.inj e3).1
      have f4 : c4 = .bool n4 := (List.cons.inj e4).1
      have f5 : c5 = .string n5 := (List.cons.inj e5).1
      have w2 := wf_u64 k2
      have w3 := wf_i64 k3
      obtain ⟨q2, rfl⟩ : ∃ q : Nat, n2 = q := ⟨n2.toNat, by omega⟩
      exact ⟨⟨n0, n1, q2, n3, n4, n5⟩, by rw [f0, f1, f2, f3, f4, f5]; rfl, show q2 ≤ _ ∧ _ ≤ n3 ∧ n3 ≤ _ by omega⟩) hok h
  exact ⟨z, hz, hq⟩
def fldL (f : Fld) : List UInt8 := if f.kind = 0 then varL f.n else if f.kind = 1 then varL (zigI f.i).toNat else if f.kind = 3 then flagL f.yes ++ flagL (!f.yes) else if f.kind = 4 then textL f.s else []
section
variable {f : Fld}
theorem fldL_0 (h : f.kind = 0) : fldL f = varL f.n := if_pos h
theorem fldL_1 (h0 : ¬ f.kind = 0) (h : f.kind = 1) : fldL f = varL (zigI f.i).toNat := by unfold fldL; rw [if_neg h0, if_pos h]
theorem fldL_3 (h0 : ¬ f.kind = 0) (h1 : ¬ f.kind = 1) (h : f.kind = 3) : fldL f = flagL f.yes ++ flagL (!f.yes) := by unfold fldL; rw [if_neg h0, if_neg h1, if_pos h]
theorem fldL_4 (h0 : ¬ f.kind = 0) (h1 : ¬ f.kind = 1) (h3 : ¬ f.kind = 3) (h : f.kind = 4) : fldL f = textL f.s := by unfold fldL; rw [if_neg h0, if_neg h1, if_neg h3, if_pos h]
theorem fldL_5 (h0 : ¬ f.kind = 0) (h1 : ¬ f.kind = 1) (h3 : ¬ f.kind = 3) (h : ¬ f.kind = 4) : fldL f = [] := by unfold fldL; rw [if_neg h0, if_neg h1, if_neg h3, if_neg h]
end
theorem flagL_len (b : Bool) : (flagL b).length = 1 := by unfold flagL; split <;> rfl
theorem fldL_le (f : Fld) (h : f.Ok) (hs : f.s.size ≤ 300) : (fldL f).length ≤ 310 := by
  obtain ⟨h1, h2⟩ := h
  have e1 := varL_ten h1
  have e2 := zigI_range f.i h2
  have e3 := varL_ten (v := (zigI f.i).toNat) (by omega)
  have e4 := varL_ten (v := f.s.size) (by omega)
  have e5 := flagL_len f.yes
  have e6 := flagL_len (!f.yes)
  unfold fldL
  split
  · omega
  split
  · omega
  split
  · rw [List.length_append]; omega
  split
  · rw [textL, List.length_append, bs_length]; omega
  · simp
theorem sb_text (s : ByteArray) : sb (textL s) = sb (varL s.size) ++ s := by rw [textL, sb_append, sb_bs]
theorem flat_two (a b : Bool) : [a, b].flatMap flagL = flagL a ++ flagL b := by simp
section
variable {f : Fld} {B : List UInt8}
theorem sbf_0 (h : f.kind = 0) : sb B ++ sb (varL f.n) = sb (B ++ fldL f) := by rw [fldL_0 h, sb_append]
theorem sbf_1 (h0 : ¬ f.kind = 0) (h : f.kind = 1) : sb B ++ sb (varL (zigI f.i).toNat) = sb (B ++ fldL f) := by rw [fldL_1 h0 h, sb_append]
theorem sbf_3 (h0 : ¬ f.kind = 0) (h1 : ¬ f.kind = 1) (h : f.kind = 3) : sb B ++ (sb (flagL f.yes) ++ sb (flagL (!f.yes))) = sb (B ++ fldL f) := by rw [fldL_3 h0 h1 h, sb_append, sb_append]
theorem sbf_4 (h0 : ¬ f.kind = 0) (h1 : ¬ f.kind = 1) (h3 : ¬ f.kind = 3) (h : f.kind = 4) : sb B ++ (sb (varL f.s.size) ++ f.s) = sb (B ++ fldL f) := by rw [fldL_4 h0 h1 h3 h, sb_append, sb_text]
theorem sbf_5 (h0 : ¬ f.kind = 0) (h1 : ¬ f.kind = 1) (h3 : ¬ f.kind = 3) (h : ¬ f.kind = 4) : sb B = sb (B ++ fldL f) := by rw [fldL_5 h0 h1 h3 h, List.append_nil]
end
theorem PackWrites_walk (v0 : Value) (z : List Fld) (w0 : World) (y0 : Sl w0 v0 6 z.length (cellsF z) ∧ ∀ f ∈ z, f.Ok) (hT : Tabs w0.heap.size w0) : Does Tryd.prog 5 #[v0] w0 (fun r w' => r = .bool true ∧ Nw w0 w') := by
  obtain ⟨hs0, hok⟩ := y0
  refine fn_of (n := 95) (args := [v0]) Tryd.func5 rfl rfl rfl ?_
  refine W_seq ?_
  refine W_region ?_
  refine L_run (.plain rfl) rfl rfl (r_assign (v := .bool _) rfl) ?_
  refine L_nil ?_
  refine W_seq ?_
  refine W_seq ?_
  refine W_region ?_
  refine L_run (.plain rfl) rfl rfl (r_move (by conv => lhs; whnf)) ?_
  refine L_run (.plain rfl) rfl rfl (r_lenSl Tryd.underlying31 (by conv => lhs; whnf) (by (exact Sl.to (by first | assumption | exact Sl.own (by assumption) | exact Mu.sl (by assumption) | exact Ow.sl (by assumption)) (fun i hi => by (repeat (first | exact Sm.refl _ _ | (refine Sm.stepT (by assumption) (by intro hlt hsm; first | exact not_no | exact bk_not (by assumption) hsm rfl) ?_))))))) ?_
  refine L_run (.plain rfl) rfl rfl (r_gtr rfl rfl) ?_
  refine L_nil ?_
  refine W_if rfl (fun h9 => ?_) (fun h9 => ?_)
  · refine W_seq ?_
    refine W_region ?_
    refine L_call (.plain rfl) rfl rfl (r_call Tryd.func11 rfl rfl rfl (by rfl)) (awake_walk w0.heap.size _ (hT.nw (by (repeat (first | exact Ch.refl _ | assumption | (refine Ch.fresh ?_ (by assumption) (by intro i hi he; first | exact he | (exfalso; have he2 : i = _ := he; omega) | (exfalso; have := he.1; omega)))))) (by omega)) (by omega)) ?_
    rintro v10 w1 ⟨rfl, c1⟩
    have hz1 := c1.size
    refine L_run (.plain rfl) rfl rfl (r_assign (v := .bool _) rfl) ?_
    refine L_nil ?_
    refine W_ret ?_
    refine ret1 (v := .bool _) rfl rfl ?_
    first
    | exact ⟨rfl, by (repeat (first | exact Ch.refl _ | assumption | (refine Ch.fresh ?_ (by assumption) (by intro i hi he; first | exact he | (exfalso; have he2 : i = _ := he; omega) | (exfalso; have := he.1; omega)))))⟩
    | exact ⟨congrArg Value.bool (decide_eq_true rfl), by (repeat (first | exact Ch.refl _ | assumption | (refine Ch.fresh ?_ (by assumption) (by intro i hi he; first | exact he | (exfalso; have he2 : i = _ := he; omega) | (exfalso; have := he.1; omega)))))⟩
  · refine W_skip ?_
    refine W_seq ?_
    refine W_region ?_
    refine L_call (.plain rfl) rfl rfl (r_call Tryd.func17 rfl rfl rfl (by rfl)) (write_walk _) ?_
    rintro v11 w2 ⟨b1, rfl, hW0, c2⟩
    have hz2 := c2.size
    have hlo0 := hW0.lo
    refine L_run (.plain rfl) rfl rfl (r_assign (v := .pointer _) rfl) ?_
    refine L_nil ?_
    refine W_seq ?_
    refine W_seq ?_
    refine W_region ?_
    refine L_call (.plain rfl) rfl rfl (r_call Tryd.func11 rfl rfl rfl (by rfl)) (awake_walk w0.heap.size _ (hT.nw (by (repeat (first | exact Ch.refl _ | assumption | (refine Ch.fresh ?_ (by assumption) (by intro i hi he; first | exact he | (exfalso; have he2 : i = _ := he; omega) | (exfalso; have := he.1; omega)))))) (by omega)) (by omega)) ?_
    rintro v12 w3 ⟨rfl, c3⟩
    have hz3 := c3.size
    refine L_run (.plain rfl) rfl rfl (r_not rfl) ?_
    refine L_as (v := .bool _) (v' := .bool false) 13 rfl (congrArg Value.bool (by simp)) ?_
    refine L_run (.plain rfl) rfl rfl (r_move (v := .bool _) rfl) ?_
    refine L_run (.yes 2 false rfl rfl) rfl rfl (r_move (v := .pointer _) rfl) ?_
    refine L_run (.yes 2 false rfl rfl) rfl rfl (r_eqpnil Tryd.underlying32 rfl rfl) ?_
    refine L_run (.plain rfl) rfl rfl (r_pick_f (v := .bool _) rfl rfl) ?_
    refine L_as (v := .bool _) (v' := .bool false) 17 rfl (congrArg Value.bool (by simp)) ?_
    refine L_nil ?_
    refine W_false rfl ?_
    refine W_skip ?_
    refine W_seq ?_
    refine W_region ?_
    refine L_run (.plain rfl) rfl rfl (r_assign (v := .string _) rfl) ?_
    refine L_nil ?_
    refine W_seq ?_
    refine W_seq ?_
    refine W_region ?_
    refine L_run (.plain rfl) rfl rfl (r_assign (v := .int _ _) rfl) ?_
    refine L_nil ?_
    refine W_block ?_
    refine W_loopF [0, 3] (fun mz_ f W => ∃ (i : Nat) (B : List UInt8), f 4 = .string (sb B) ∧ f 5 = .int .i64 i ∧ (i ≤ z.length ∧ B.length ≤ 310 * i ∧ WrAt w0.heap.size W b1 B ∧ Sl W v0 6 z.length (cellsF z) ∧ Nw w0 W) ∧ mz_ = z.length - i) ?_ ?_
    · refine ⟨_, 0, [], rfl, rfl, ?_, rfl⟩
      exact ⟨by omega, by simp, hW0.nw (by (repeat (first | exact Ch.refl _ | assumption | (refine Ch.fresh ?_ (by assumption) (by intro i hi he; first | exact he | (exfalso; have he2 : i = _ := he; omega) | (exfalso; have := he.1; omega)))))), by (exact Sl.to (by first | assumption | exact Sl.own (by assumption) | exact Mu.sl (by assumption) | exact Ow.sl (by assumption)) (fun i hi => by (repeat (first | exact Sm.refl _ _ | (refine Sm.stepT (by assumption) (by intro hlt hsm; first | exact not_no | exact bk_not (by assumption) hsm rfl) ?_))))), by (repeat (first | exact Ch.refl _ | assumption | (refine Ch.fresh ?_ (by assumption) (by intro i hi he; first | exact he | (exfalso; have he2 : i = _ := he; omega) | (exfalso; have := he.1; omega)))))⟩
    rintro m0 g0 w4 ⟨i, B, hf4, hf5, hR0, rfl⟩
    refine W_as 4 hf4 rfl ?_
    refine W_as 5 hf5 rfl ?_
    clear hf4 hf5
    obtain ⟨hi, hB, hWi, hsi, hnw⟩ := hR0
    have hz := hnw.size
    have hsB := sb_size B
    refine W_seq ?_
    refine W_seq ?_
    refine W_region ?_
    refine L_run (.plain rfl) rfl rfl (r_move (v := .int _ _) rfl) ?_
    refine L_run (.plain rfl) rfl rfl (r_move (by conv => lhs; whnf)) ?_
    refine L_run (.plain rfl) rfl rfl (r_lenSl Tryd.underlying31 (by conv => lhs; whnf) (by (exact Sl.to (by first | assumption | exact Sl.own (by assumption) | exact Mu.sl (by assumption) | exact Ow.sl (by assumption)) (fun i hi => by (repeat (first | exact Sm.refl _ _ | (refine Sm.stepT (by assumption) (by intro hlt hsm; first | exact not_no | exact bk_not (by assumption) hsm rfl) ?_))))))) ?_
    refine L_run (.plain rfl) rfl rfl (r_lss rfl rfl) ?_
    refine L_nil ?_
    refine W_if rfl (fun h21 => ?_) (fun h21 => ?_)
    · have hin : i < z.length := by omega
      have hoki := hok z[i] (List.getElem_mem hin)
      obtain ⟨hok1, hok2⟩ := id hoki
      have hten := varL_ten hok1
      have hzg := zigI_range z[i].i hok2
      have hten2 := varL_ten (v := (zigI z[i].i).toNat) (by omega)
      have hf1 := flagL_len z[i].yes
      have hf2 := flagL_len (!z[i].yes)
      refine W_skip ?_
      refine W_seq ?_
      refine W_block ?_
      refine W_seq ?_
      refine W_region ?_
      refine L_run (.plain rfl) rfl rfl (r_move (by conv => lhs; whnf)) ?_
      refine L_run (.plain rfl) rfl rfl (r_move (v := .int _ _) rfl) ?_
      refine L_run (.plain rfl) rfl rfl (r_idxSl Tryd.underlying31 (show _ = some 6 from rfl) (by conv => lhs; whnf) rfl (by (exact Sl.to (by first | assumption | exact Sl.own (by assumption) | exact Mu.sl (by assumption) | exact Ow.sl (by assumption)) (fun i hi => by (repeat (first | exact Sm.refl _ _ | (refine Sm.stepT (by assumption) (by intro hlt hsm; first | exact not_no | exact bk_not (by assumption) hsm rfl) ?_)))))) (by omega) (by omega) (by conv => lhs; (try simp only [Nat.mul_one, Nat.zero_add, Int.toNat_natCast, Int.toNat_zero, Int.reduceToNat, Nat.reduceMul, Nat.reduceAdd]))) ?_
      refine L_run (.plain rfl) rfl rfl (r_loadSlrow (us := [.int .i64 z[i].kind, .int .i64 z[i].most, .int .u64 z[i].n, .int .i64 z[i].i, .bool z[i].yes, .string z[i].s]) Tryd.underlying35 rfl rfl rfl rfl (by (exact Sl.to (by first | assumption | exact Sl.own (by assumption) | exact Mu.sl (by assumption) | exact Ow.sl (by assumption)) (fun i hi => by (repeat (first | exact Sm.refl _ _ | (refine Sm.stepT (by assumption) (by intro hlt hsm; first | exact not_no | exact bk_not (by assumption) hsm rfl) ?_)))))) (by exact cellsF_row z i (by omega))) ?_
      refine L_new (.plain rfl) rfl rfl (r_alloca rfl) (fun w5 b6 hb6 eb5 hs5 c5 => ?_)
      refine L_storerow (.plain rfl) rfl rfl (by (exact Bk.to (by assumption) (by (repeat (first | exact Sm.refl _ _ | (refine Sm.stepT (by assumption) (by intro hlt hsm; first | exact not_no | exact bk_not (by assumption) hsm rfl) ?_)))))) (by first | rfl | (simp; done) | assumption) (by first | rfl | assumption) (by first | rfl | (simp [Value.oneCell']; done) | assumption) (fun w6 hb6 hs6 c6 => ?_)
      refine L_nil ?_
      refine W_seq ?_
      refine W_seq ?_
      refine W_region ?_
      refine L_run (.plain rfl) rfl rfl (r_fieldb Tryd.underlying35 rfl (show _ = some 1 from rfl) rfl rfl (show _ = 5 from rfl)) ?_
      refine L_run (.plain rfl) rfl rfl (r_loadb rfl rfl (by (exact Bk.to (by assumption) (by (repeat (first | exact Sm.refl _ _ | (refine Sm.stepT (by assumption) (by intro hlt hsm; first | exact not_no | exact bk_not (by assumption) hsm rfl) ?_)))))) (by first | assumption | (conv => lhs; simp only [List.getElem?_toArray, List.getElem?_cons_succ, List.getElem?_cons_zero]))) ?_
      refine L_run (.plain rfl) rfl rfl (r_lens Tryd.underlying9 rfl) ?_
      refine L_run (.plain rfl) rfl rfl (r_gtr rfl rfl) ?_
      refine L_nil ?_
      refine W_if rfl (fun h31 => ?_) (fun h31 => ?_)
      · refine W_seq ?_
        refine W_region ?_
        refine L_run (.plain rfl) rfl rfl (r_assign (v := .bool _) rfl) ?_
        refine L_nil ?_
        refine W_ret ?_
        refine ret1 (v := .bool _) rfl rfl ?_
        first
        | exact ⟨rfl, by (repeat (first | exact Ch.refl _ | assumption | (refine Ch.fresh ?_ (by assumption) (by intro i hi he; first | exact he | (exfalso; have he2 : i = _ := he; omega) | (exfalso; have := he.1; omega)))))⟩
        | exact ⟨congrArg Value.bool (decide_eq_true rfl), by (repeat (first | exact Ch.refl _ | assumption | (refine Ch.fresh ?_ (by assumption) (by intro i hi he; first | exact he | (exfalso; have he2 : i = _ := he; omega) | (exfalso; have := he.1; omega)))))⟩
      · refine W_skip ?_
        refine W_seq ?_
        have hle := fldL_le z[i] hoki (by omega)
        have hten3 := varL_ten (v := z[i].s.size) (by omega)
        refine W_region ?_
        refine L_run (.plain rfl) rfl rfl (r_fieldb Tryd.underlying35 rfl (show _ = some 1 from rfl) rfl rfl (show _ = 0 from rfl)) ?_
        refine L_run (.plain rfl) rfl rfl (r_loadb rfl rfl (by (exact Bk.to (by assumption) (by (repeat (first | exact Sm.refl _ _ | (refine Sm.stepT (by assumption) (by intro hlt hsm; first | exact not_no | exact bk_not (by assumption) hsm rfl) ?_)))))) (by first | assumption | (conv => lhs; simp only [List.getElem?_toArray, List.getElem?_cons_succ, List.getElem?_cons_zero]))) ?_
        refine L_nil ?_
        refine W_block ?_
        refine W_seq ?_
        refine W_region ?_
        refine L_run (.plain rfl) rfl rfl (r_eql rfl rfl) ?_
        refine L_run (.plain rfl) rfl rfl (r_assign (v := .bool _) rfl) ?_
        refine L_nil ?_
        refine W_if rfl (fun h34 => ?_) (fun h34 => ?_)
        · refine W_seq ?_
          refine W_region ?_
          refine L_run (.plain rfl) rfl rfl (r_move (v := .pointer _) rfl) ?_
          refine L_run (.plain rfl) rfl rfl (r_fieldb Tryd.underlying35 rfl (show _ = some 1 from rfl) rfl rfl (show _ = 2 from rfl)) ?_
          refine L_run (.plain rfl) rfl rfl (r_loadb rfl rfl (by (exact Bk.to (by assumption) (by (repeat (first | exact Sm.refl _ _ | (refine Sm.stepT (by assumption) (by intro hlt hsm; first | exact not_no | exact bk_not (by assumption) hsm rfl) ?_)))))) (by first | assumption | (conv => lhs; simp only [List.getElem?_toArray, List.getElem?_cons_succ, List.getElem?_cons_zero]))) ?_
          refine L_build1o [.int _ _] Tryd.underlying55 rfl rfl rfl (.plain rfl) rfl (by rfl) (by rfl) (by rfl) (fun v39 w7 ho39 eb7 hs7 c7 => ?_)
          refine L_call (.plain rfl) rfl rfl (r_call Tryd.func18 rfl rfl rfl (by rfl)) (wnum_walk _ _ b1 B _ [z[i].n] _ (hWi.nw (by (repeat (first | exact Ch.refl _ | assumption | (refine Ch.fresh ?_ (by assumption) (by intro i hi he; first | exact he | (exfalso; have he2 : i = _ := he; omega) | (exfalso; have := he.1; omega))))))) (ow_lit ho39) (by intro x hx; rw [List.mem_singleton] at hx; omega) (by show B.length + 10 * 1 ≤ _; omega) (by omega)) ?_
          rintro v40 w8 ⟨rfl, hW1, c8⟩
          have hz8 := c8.size
          rw [List.flatMap_singleton] at hW1
          refine L_nil ?_
          refine W_region ?_
          refine L_run (.plain rfl) rfl rfl (r_move (v := .string _) rfl) ?_
          refine L_run (.plain rfl) rfl rfl (r_fieldb Tryd.underlying35 rfl (show _ = some 1 from rfl) rfl rfl (show _ = 2 from rfl)) ?_
          refine L_run (.plain rfl) rfl rfl (r_loadb rfl rfl (by (exact Bk.to (by assumption) (by (repeat (first | exact Sm.refl _ _ | (refine Sm.stepT (by assumption) (by intro hlt hsm; first | exact not_no | exact bk_not (by assumption) hsm rfl) ?_)))))) (by first | assumption | (conv => lhs; simp only [List.getElem?_toArray, List.getElem?_cons_succ, List.getElem?_cons_zero]))) ?_
          refine L_call (.plain rfl) rfl rfl (r_call Tryd.func16 rfl rfl rfl (by rfl)) (rvar_walk z[i].n _ hok1) ?_
          rintro v44 w9 ⟨rfl, c9⟩
          have hz9 := c9.size
          refine L_run (.plain rfl) rfl rfl (r_adds rfl rfl (by first | omega | (simp only [ByteArray.size_append, sb_size]; omega))) ?_
          refine L_run (.plain rfl) rfl rfl (r_assign (v := .string _) rfl) ?_
          refine L_nil ?_
          refine W_region ?_
          refine L_run (.plain rfl) rfl rfl (r_move (v := .int _ _) rfl) ?_
          refine L_run (.plain rfl) rfl rfl (r_add rfl rfl (by first | exact wr_i64 (by omega) | rfl)) ?_
          refine L_run (.plain rfl) rfl rfl (r_assign (v := .int _ _) rfl) ?_
          refine L_nil ?_
          refine ⟨⟨rfl, rfl, trivial⟩, _, ?_, i + 1, B ++ fldL z[i], (by first
| exact congrArg Value.string (sbf_0 (by assumption))
| exact congrArg Value.string (sbf_1 (by assumption) (by assumption))
| exact congrArg Value.string (sbf_3 (by assumption) (by assumption) (by assumption))
| exact congrArg Value.string (sbf_4 (by assumption) (by assumption) (by assumption) (by assumption))
| exact congrArg Value.string (sbf_5 (by assumption) (by assumption) (by assumption) (by assumption))), rfl, ?_, rfl⟩
          · omega
          refine ⟨by omega, by rw [List.length_append]; omega, ?_, Sl.nw (by (repeat (first | exact Ch.refl _ | assumption | (refine Ch.fresh ?_ (by assumption) (by intro i hi he; first | exact he | (exfalso; have he2 : i = _ := he; omega) | (exfalso; have := he.1; omega)))))) hs0, by (repeat (first | exact Ch.refl _ | assumption | (refine Ch.fresh ?_ (by assumption) (by intro i hi he; first | exact he | (exfalso; have he2 : i = _ := he; omega) | (exfalso; have := he.1; omega)))))⟩
          first
          | (rw [fldL_0 (f := z[i]) (by assumption)]; exact hW1.nw (by (repeat (first | exact Ch.refl _ | assumption | (refine Ch.fresh ?_ (by assumption) (by intro i hi he; first | exact he | (exfalso; have he2 : i = _ := he; omega) | (exfalso; have := he.1; omega)))))))
          | (rw [fldL_1 (f := z[i]) (by assumption) (by assumption)]; exact hW1.nw (by (repeat (first | exact Ch.refl _ | assumption | (refine Ch.fresh ?_ (by assumption) (by intro i hi he; first | exact he | (exfalso; have he2 : i = _ := he; omega) | (exfalso; have := he.1; omega)))))))
          | (rw [fldL_3 (f := z[i]) (by assumption) (by assumption) (by assumption)]; exact hW1.nw (by (repeat (first | exact Ch.refl _ | assumption | (refine Ch.fresh ?_ (by assumption) (by intro i hi he; first | exact he | (exfalso; have he2 : i = _ := he; omega) | (exfalso; have := he.1; omega)))))))
          | (rw [fldL_4 (f := z[i]) (by assumption) (by assumption) (by assumption) (by assumption)]; exact hW1.nw (by (repeat (first | exact Ch.refl _ | assumption | (refine Ch.fresh ?_ (by assumption) (by intro i hi he; first | exact he | (exfalso; have he2 : i = _ := he; omega) | (exfalso; have := he.1; omega)))))))
          | (rw [fldL_5 (f := z[i]) (by assumption) (by assumption) (by assumption) (by assumption), List.append_nil]; exact hWi.nw (by (repeat (first | exact Ch.refl _ | assumption | (refine Ch.fresh ?_ (by assumption) (by intro i hi he; first | exact he | (exfalso; have he2 : i = _ := he; omega) | (exfalso; have := he.1; omega)))))))
        · refine W_seq ?_
          refine W_region ?_
          refine L_run (.plain rfl) rfl rfl (r_eql rfl rfl) ?_
          refine L_run (.plain rfl) rfl rfl (r_assign (v := .bool _) rfl) ?_
          refine L_nil ?_
          refine W_if rfl (fun h46 => ?_) (fun h46 => ?_)
          · refine W_seq ?_
            refine W_region ?_
            refine L_run (.plain rfl) rfl rfl (r_move (v := .pointer _) rfl) ?_
            refine L_run (.plain rfl) rfl rfl (r_fieldb Tryd.underlying35 rfl (show _ = some 1 from rfl) rfl rfl (show _ = 3 from rfl)) ?_
            refine L_run (.plain rfl) rfl rfl (r_loadb rfl rfl (by (exact Bk.to (by assumption) (by (repeat (first | exact Sm.refl _ _ | (refine Sm.stepT (by assumption) (by intro hlt hsm; first | exact not_no | exact bk_not (by assumption) hsm rfl) ?_)))))) (by first | assumption | (conv => lhs; simp only [List.getElem?_toArray, List.getElem?_cons_succ, List.getElem?_cons_zero]))) ?_
            refine L_build1o [.int _ _] Tryd.underlying68 rfl rfl rfl (.plain rfl) rfl (by rfl) (by rfl) (by rfl) (fun v51 w10 ho51 eb10 hs10 c10 => ?_)
            refine L_call (.plain rfl) rfl rfl (r_call Tryd.func19 rfl rfl rfl (by rfl)) (wint_walk _ _ b1 B _ [z[i].i] _ (hWi.nw (by (repeat (first | exact Ch.refl _ | assumption | (refine Ch.fresh ?_ (by assumption) (by intro i hi he; first | exact he | (exfalso; have he2 : i = _ := he; omega) | (exfalso; have := he.1; omega))))))) (ow_lit ho51) (by intro x hx; rw [List.mem_singleton] at hx; rw [hx]; exact hok2) (by show B.length + 10 * 1 ≤ _; omega) (by omega)) ?_
            rintro v52 w11 ⟨rfl, hW1, c11⟩
            have hz11 := c11.size
            rw [List.flatMap_singleton] at hW1
            refine L_nil ?_
            refine W_region ?_
            refine L_run (.plain rfl) rfl rfl (r_move (v := .string _) rfl) ?_
            refine L_run (.plain rfl) rfl rfl (r_fieldb Tryd.underlying35 rfl (show _ = some 1 from rfl) rfl rfl (show _ = 3 from rfl)) ?_
            refine L_run (.plain rfl) rfl rfl (r_loadb rfl rfl (by (exact Bk.to (by assumption) (by (repeat (first | exact Sm.refl _ _ | (refine Sm.stepT (by assumption) (by intro hlt hsm; first | exact not_no | exact bk_not (by assumption) hsm rfl) ?_)))))) (by first | assumption | (conv => lhs; simp only [List.getElem?_toArray, List.getElem?_cons_succ, List.getElem?_cons_zero]))) ?_
            refine L_call (.plain rfl) rfl rfl (r_call Tryd.func20 rfl rfl rfl (by rfl)) (rint_walk z[i].i _ hok2) ?_
            rintro v56 w12 ⟨rfl, c12⟩
            have hz12 := c12.size
            refine L_run (.plain rfl) rfl rfl (r_adds rfl rfl (by first | omega | (simp only [ByteArray.size_append, sb_size]; omega))) ?_
            refine L_run (.plain rfl) rfl rfl (r_assign (v := .string _) rfl) ?_
            refine L_nil ?_
            refine W_region ?_
            refine L_run (.plain rfl) rfl rfl (r_move (v := .int _ _) rfl) ?_
            refine L_run (.plain rfl) rfl rfl (r_add rfl rfl (by first | exact wr_i64 (by omega) | rfl)) ?_
            refine L_run (.plain rfl) rfl rfl (r_assign (v := .int _ _) rfl) ?_
            refine L_nil ?_
            refine ⟨⟨rfl, rfl, trivial⟩, _, ?_, i + 1, B ++ fldL z[i], (by first
| exact congrArg Value.string (sbf_0 (by assumption))
| exact congrArg Value.string (sbf_1 (by assumption) (by assumption))
| exact congrArg Value.string (sbf_3 (by assumption) (by assumption) (by assumption))
| exact congrArg Value.string (sbf_4 (by assumption) (by assumption) (by assumption) (by assumption))
| exact congrArg Value.string (sbf_5 (by assumption) (by assumption) (by assumption) (by assumption))), rfl, ?_, rfl⟩
            · omega
            refine ⟨by omega, by rw [List.length_append]; omega, ?_, Sl.nw (by (repeat (first | exact Ch.refl _ | assumption | (refine Ch.fresh ?_ (by assumption) (by intro i hi he; first | exact he | (exfalso; have he2 : i = _ := he; omega) | (exfalso; have := he.1; omega)))))) hs0, by (repeat (first | exact Ch.refl _ | assumption | (refine Ch.fresh ?_ (by assumption) (by intro i hi he; first | exact he | (exfalso; have he2 : i = _ := he; omega) | (exfalso; have := he.1; omega)))))⟩
            first
            | (rw [fldL_0 (f := z[i]) (by assumption)]; exact hW1.nw (by (repeat (first | exact Ch.refl _ | assumption | (refine Ch.fresh ?_ (by assumption) (by intro i hi he; first | exact he | (exfalso; have he2 : i = _ := he; omega) | (exfalso; have := he.1; omega)))))))
            | (rw [fldL_1 (f := z[i]) (by assumption) (by assumption)]; exact hW1.nw (by (repeat (first | exact Ch.refl _ | assumption | (refine Ch.fresh ?_ (by assumption) (by intro i hi he; first | exact he | (exfalso; have he2 : i = _ := he; omega) | (exfalso; have := he.1; omega)))))))
            | (rw [fldL_3 (f := z[i]) (by assumption) (by assumption) (by assumption)]; exact hW1.nw (by (repeat (first | exact Ch.refl _ | assumption | (refine Ch.fresh ?_ (by assumption) (by intro i hi he; first | exact he | (exfalso; have he2 : i = _ := he; omega) | (exfalso; have := he.1; omega)))))))
            | (rw [fldL_4 (f := z[i]) (by assumption) (by assumption) (by assumption) (by assumption)]; exact hW1.nw (by (repeat (first | exact Ch.refl _ | assumption | (refine Ch.fresh ?_ (by assumption) (by intro i hi he; first | exact he | (exfalso; have he2 : i = _ := he; omega) | (exfalso; have := he.1; omega)))))))
            | (rw [fldL_5 (f := z[i]) (by assumption) (by assumption) (by assumption) (by assumption), List.append_nil]; exact hWi.nw (by (repeat (first | exact Ch.refl _ | assumption | (refine Ch.fresh ?_ (by assumption) (by intro i hi he; first | exact he | (exfalso; have he2 : i = _ := he; omega) | (exfalso; have := he.1; omega)))))))
          · refine W_seq ?_
            refine W_region ?_
            refine L_run (.plain rfl) rfl rfl (r_eql rfl rfl) ?_
            refine L_run (.plain rfl) rfl rfl (r_assign (v := .bool _) rfl) ?_
            refine L_nil ?_
            refine W_if rfl (fun h58 => ?_) (fun h58 => ?_)
            · refine W_seq ?_
              refine W_region ?_
              refine L_run (.plain rfl) rfl rfl (r_move (v := .pointer _) rfl) ?_
              refine L_run (.plain rfl) rfl rfl (r_fieldb Tryd.underlying35 rfl (show _ = some 1 from rfl) rfl rfl (show _ = 4 from rfl)) ?_
              refine L_run (.plain rfl) rfl rfl (r_loadb rfl rfl (by (exact Bk.to (by assumption) (by (repeat (first | exact Sm.refl _ _ | (refine Sm.stepT (by assumption) (by intro hlt hsm; first | exact not_no | exact bk_not (by assumption) hsm rfl) ?_)))))) (by first | assumption | (conv => lhs; simp only [List.getElem?_toArray, List.getElem?_cons_succ, List.getElem?_cons_zero]))) ?_
              refine L_run (.plain rfl) rfl rfl (r_fieldb Tryd.underlying35 rfl (show _ = some 1 from rfl) rfl rfl (show _ = 4 from rfl)) ?_
              refine L_run (.plain rfl) rfl rfl (r_loadb rfl rfl (by (exact Bk.to (by assumption) (by (repeat (first | exact Sm.refl _ _ | (refine Sm.stepT (by assumption) (by intro hlt hsm; first | exact not_no | exact bk_not (by assumption) hsm rfl) ?_)))))) (by first | assumption | (conv => lhs; simp only [List.getElem?_toArray, List.getElem?_cons_succ, List.getElem?_cons_zero]))) ?_
              refine L_run (.plain rfl) rfl rfl (r_not rfl) ?_
              refine L_build1o [.bool _, .bool _] Tryd.underlying69 rfl rfl rfl (.plain rfl) rfl (by rfl) (by rfl) (by rfl) (fun v66 w13 ho66 eb13 hs13 c13 => ?_)
              refine L_call (.plain rfl) rfl rfl (r_call Tryd.func21 rfl rfl rfl (by rfl)) (wflag_walk _ _ b1 B _ [z[i].yes, !z[i].yes] _ (hWi.nw (by (repeat (first | exact Ch.refl _ | assumption | (refine Ch.fresh ?_ (by assumption) (by intro i hi he; first | exact he | (exfalso; have he2 : i = _ := he; omega) | (exfalso; have := he.1; omega))))))) (ow_lit ho66) (by show B.length + 2 ≤ _; omega) (by omega)) ?_
              rintro v67 w14 ⟨rfl, hW1, c14⟩
              have hz14 := c14.size
              rw [flat_two] at hW1
              refine L_nil ?_
              refine W_draw (fun W => Bk W b6 #[.int .i64 z[i].kind, .int .i64 z[i].most, .int .u64 z[i].n, .int .i64 z[i].i, .bool z[i].yes, .string z[i].s] 35) 11 (m := 11) (by kernel_rfl) rfl (fun w15 c15 hs15 => ?_)
              refine held (by (exact Bk.to (by assumption) (by (repeat (first | exact Sm.refl _ _ | (refine Sm.stepT (by assumption) (by intro hlt hsm; first | exact not_no | exact bk_not (by assumption) hsm rfl) ?_)))))) (fun hS => ?_)
              refine D_take 0 rfl (by kernel_rfl) (by kernel_rfl) (by kernel_rfl) (by kernel_rfl) (.plain rfl) rfl rfl (by assumption) (fun W hW => r_move (v := .string _) rfl) ?_
              refine D_take 1 rfl (by kernel_rfl) (by kernel_rfl) (by kernel_rfl) (by kernel_rfl) (.plain rfl) rfl rfl (by assumption) (fun W hW => r_fieldb Tryd.underlying35 rfl (show _ = some 1 from rfl) rfl rfl (show _ = 4 from rfl)) ?_
              refine D_take 2 rfl (by kernel_rfl) (by kernel_rfl) (by kernel_rfl) (by kernel_rfl) (.plain rfl) rfl rfl (by assumption) (fun W hW => r_loadb rfl rfl (by exact hW) (by first | assumption | (conv => lhs; simp only [List.getElem?_toArray, List.getElem?_cons_succ, List.getElem?_cons_zero]))) ?_
              refine D_take 4 rfl (by kernel_rfl) (by kernel_rfl) (by kernel_rfl) (by kernel_rfl) (.plain rfl) rfl rfl (by assumption) (fun W hW => r_fieldb Tryd.underlying35 rfl (show _ = some 1 from rfl) rfl rfl (show _ = 4 from rfl)) ?_
              refine D_take 5 rfl (by kernel_rfl) (by kernel_rfl) (by kernel_rfl) (by kernel_rfl) (.plain rfl) rfl rfl (by assumption) (fun W hW => r_loadb rfl rfl (by exact hW) (by first | assumption | (conv => lhs; simp only [List.getElem?_toArray, List.getElem?_cons_succ, List.getElem?_cons_zero]))) ?_
              refine D_take 6 rfl (by kernel_rfl) (by kernel_rfl) (by kernel_rfl) (by kernel_rfl) (.plain rfl) rfl rfl (by assumption) (fun W hW => r_not rfl) ?_
              refine D_ev 3 (by kernel_rfl) rfl ?_
              refine L_call (.plain rfl) rfl rfl (r_call Tryd.func22 rfl rfl rfl (by rfl)) (rflag_walk z[i].yes _) ?_
              rintro v71 w16 ⟨rfl, rfl⟩
              refine L_nil ?_
              refine heldK (by (exact Bk.to (by assumption) (by (repeat (first | exact Sm.refl _ _ | (refine Sm.stepT (by assumption) (by intro hlt hsm; first | exact not_no | exact bk_not (by assumption) hsm rfl) ?_)))))) (fun hS => ?_)
              refine D_ev 7 (by kernel_rfl) rfl ?_
              refine L_call (.plain rfl) rfl rfl (r_call Tryd.func22 rfl rfl rfl (by rfl)) (rflag_walk (!z[i].yes) _) ?_
              rintro v75 w17 ⟨rfl, rfl⟩
              refine L_nil ?_
              refine heldK (by (exact Bk.to (by assumption) (by (repeat (first | exact Sm.refl _ _ | (refine Sm.stepT (by assumption) (by intro hlt hsm; first | exact not_no | exact bk_not (by assumption) hsm rfl) ?_)))))) (fun hS => ?_)
              refine D_take 8 rfl (by kernel_rfl) (by kernel_rfl) (by kernel_rfl) (by kernel_rfl) (.plain rfl) rfl rfl (by assumption) (fun W hW => r_adds rfl rfl (by first | omega | (simp only [ByteArray.size_append, sb_size]; omega))) ?_
              refine D_take 9 rfl (by kernel_rfl) (by kernel_rfl) (by kernel_rfl) (by kernel_rfl) (.plain rfl) rfl rfl (by assumption) (fun W hW => r_adds rfl rfl (by first | omega | (simp only [ByteArray.size_append, sb_size]; omega))) ?_
              refine D_take 10 rfl (by kernel_rfl) (by kernel_rfl) (by kernel_rfl) (by kernel_rfl) (.plain rfl) rfl rfl (by assumption) (fun W hW => r_assign (v := .string _) rfl) ?_
              refine D_done (by kernel_rfl) ?_
              refine W_region ?_
              refine L_run (.plain rfl) rfl rfl (r_move (v := .int _ _) rfl) ?_
              refine L_run (.plain rfl) rfl rfl (r_add rfl rfl (by first | exact wr_i64 (by omega) | rfl)) ?_
              refine L_run (.plain rfl) rfl rfl (r_assign (v := .int _ _) rfl) ?_
              refine L_nil ?_
              refine ⟨⟨rfl, rfl, trivial⟩, _, ?_, i + 1, B ++ fldL z[i], (by first
| exact congrArg Value.string (sbf_0 (by assumption))
| exact congrArg Value.string (sbf_1 (by assumption) (by assumption))
| exact congrArg Value.string (sbf_3 (by assumption) (by assumption) (by assumption))
| exact congrArg Value.string (sbf_4 (by assumption) (by assumption) (by assumption) (by assumption))
| exact congrArg Value.string (sbf_5 (by assumption) (by assumption) (by assumption) (by assumption))), rfl, ?_, rfl⟩
              · omega
              refine ⟨by omega, by rw [List.length_append]; omega, ?_, Sl.nw (by (repeat (first | exact Ch.refl _ | assumption | (refine Ch.fresh ?_ (by assumption) (by intro i hi he; first | exact he | (exfalso; have he2 : i = _ := he; omega) | (exfalso; have := he.1; omega)))))) hs0, by (repeat (first | exact Ch.refl _ | assumption | (refine Ch.fresh ?_ (by assumption) (by intro i hi he; first | exact he | (exfalso; have he2 : i = _ := he; omega) | (exfalso; have := he.1; omega)))))⟩
              first
              | (rw [fldL_0 (f := z[i]) (by assumption)]; exact hW1.nw (by (repeat (first | exact Ch.refl _ | assumption | (refine Ch.fresh ?_ (by assumption) (by intro i hi he; first | exact he | (exfalso; have he2 : i = _ := he; omega) | (exfalso; have := he.1; omega)))))))
              | (rw [fldL_1 (f := z[i]) (by assumption) (by assumption)]; exact hW1.nw (by (repeat (first | exact Ch.refl _ | assumption | (refine Ch.fresh ?_ (by assumption) (by intro i hi he; first | exact he | (exfalso; have he2 : i = _ := he; omega) | (exfalso; have := he.1; omega)))))))
              | (rw [fldL_3 (f := z[i]) (by assumption) (by assumption) (by assumption)]; exact hW1.nw (by (repeat (first | exact Ch.refl _ | assumption | (refine Ch.fresh ?_ (by assumption) (by intro i hi he; first | exact he | (exfalso; have he2 : i = _ := he; omega) | (exfalso; have := he.1; omega)))))))
              | (rw [fldL_4 (f := z[i]) (by assumption) (by assumption) (by assumption) (by assumption)]; exact hW1.nw (by (repeat (first | exact Ch.refl _ | assumption | (refine Ch.fresh ?_ (by assumption) (by intro i hi he; first | exact he | (exfalso; have he2 : i = _ := he; omega) | (exfalso; have := he.1; omega)))))))
              | (rw [fldL_5 (f := z[i]) (by assumption) (by assumption) (by assumption) (by assumption), List.append_nil]; exact hWi.nw (by (repeat (first | exact Ch.refl _ | assumption | (refine Ch.fresh ?_ (by assumption) (by intro i hi he; first | exact he | (exfalso; have he2 : i = _ := he; omega) | (exfalso; have := he.1; omega)))))))
            · refine W_seq ?_
              refine W_region ?_
              refine L_run (.plain rfl) rfl rfl (r_eql rfl rfl) ?_
              refine L_run (.plain rfl) rfl rfl (r_assign (v := .bool _) rfl) ?_
              refine L_nil ?_
              refine W_if rfl (fun h78 => ?_) (fun h78 => ?_)
              · refine W_seq ?_
                refine W_region ?_
                refine L_run (.plain rfl) rfl rfl (r_move (v := .pointer _) rfl) ?_
                refine L_run (.plain rfl) rfl rfl (r_fieldb Tryd.underlying35 rfl (show _ = some 1 from rfl) rfl rfl (show _ = 5 from rfl)) ?_
                refine L_run (.plain rfl) rfl rfl (r_loadb rfl rfl (by (exact Bk.to (by assumption) (by (repeat (first | exact Sm.refl _ _ | (refine Sm.stepT (by assumption) (by intro hlt hsm; first | exact not_no | exact bk_not (by assumption) hsm rfl) ?_)))))) (by first | assumption | (conv => lhs; simp only [List.getElem?_toArray, List.getElem?_cons_succ, List.getElem?_cons_zero]))) ?_
                refine L_build1o [.string _] Tryd.underlying70 rfl rfl rfl (.plain rfl) rfl (by rfl) (by rfl) (by rfl) (fun v83 w18 ho83 eb18 hs18 c18 => ?_)
                refine L_call (.plain rfl) rfl rfl (r_call Tryd.func23 rfl rfl rfl (by rfl)) (wtext_walk _ _ b1 B _ [z[i].s] _ (hWi.nw (by (repeat (first | exact Ch.refl _ | assumption | (refine Ch.fresh ?_ (by assumption) (by intro i hi he; first | exact he | (exfalso; have he2 : i = _ := he; omega) | (exfalso; have := he.1; omega))))))) (ow_lit ho83) (by intro x hx; rw [List.mem_singleton] at hx; rw [hx]; omega) (by show 1 ≤ _; omega) (by omega) (by omega)) ?_
                rintro v84 w19 ⟨rfl, hW1, c19⟩
                have hz19 := c19.size
                rw [List.flatMap_singleton] at hW1
                refine L_nil ?_
                refine W_region ?_
                refine L_run (.plain rfl) rfl rfl (r_move (v := .string _) rfl) ?_
                refine L_run (.plain rfl) rfl rfl (r_fieldb Tryd.underlying35 rfl (show _ = some 1 from rfl) rfl rfl (show _ = 5 from rfl)) ?_
                refine L_run (.plain rfl) rfl rfl (r_loadb rfl rfl (by (exact Bk.to (by assumption) (by (repeat (first | exact Sm.refl _ _ | (refine Sm.stepT (by assumption) (by intro hlt hsm; first | exact not_no | exact bk_not (by assumption) hsm rfl) ?_)))))) (by first | assumption | (conv => lhs; simp only [List.getElem?_toArray, List.getElem?_cons_succ, List.getElem?_cons_zero]))) ?_
                refine L_call (.plain rfl) rfl rfl (r_call Tryd.func24 rfl rfl rfl (by rfl)) (rtext_walk z[i].s _ (by omega)) ?_
                rintro v88 w20 ⟨rfl, c20⟩
                have hz20 := c20.size
                refine L_run (.plain rfl) rfl rfl (r_adds rfl rfl (by first | omega | (simp only [ByteArray.size_append, sb_size]; omega))) ?_
                refine L_run (.plain rfl) rfl rfl (r_assign (v := .string _) rfl) ?_
                refine L_nil ?_
                refine W_region ?_
                refine L_run (.plain rfl) rfl rfl (r_move (v := .int _ _) rfl) ?_
                refine L_run (.plain rfl) rfl rfl (r_add rfl rfl (by first | exact wr_i64 (by omega) | rfl)) ?_
                refine L_run (.plain rfl) rfl rfl (r_assign (v := .int _ _) rfl) ?_
                refine L_nil ?_
                refine ⟨⟨rfl, rfl, trivial⟩, _, ?_, i + 1, B ++ fldL z[i], (by first
| exact congrArg Value.string (sbf_0 (by assumption))
| exact congrArg Value.string (sbf_1 (by assumption) (by assumption))
| exact congrArg Value.string (sbf_3 (by assumption) (by assumption) (by assumption))
| exact congrArg Value.string (sbf_4 (by assumption) (by assumption) (by assumption) (by assumption))
| exact congrArg Value.string (sbf_5 (by assumption) (by assumption) (by assumption) (by assumption))), rfl, ?_, rfl⟩
                · omega
                refine ⟨by omega, by rw [List.length_append]; omega, ?_, Sl.nw (by (repeat (first | exact Ch.refl _ | assumption | (refine Ch.fresh ?_ (by assumption) (by intro i hi he; first | exact he | (exfalso; have he2 : i = _ := he; omega) | (exfalso; have := he.1; omega)))))) hs0, by (repeat (first | exact Ch.refl _ | assumption | (refine Ch.fresh ?_ (by assumption) (by intro i hi he; first | exact he | (exfalso; have he2 : i = _ := he; omega) | (exfalso; have := he.1; omega)))))⟩
                first
                | (rw [fldL_0 (f := z[i]) (by assumption)]; exact hW1.nw (by (repeat (first | exact Ch.refl _ | assumption | (refine Ch.fresh ?_ (by assumption) (by intro i hi he; first | exact he | (exfalso; have he2 : i = _ := he; omega) | (exfalso; have := he.1; omega)))))))
                | (rw [fldL_1 (f := z[i]) (by assumption) (by assumption)]; exact hW1.nw (by (repeat (first | exact Ch.refl _ | assumption | (refine Ch.fresh ?_ (by assumption) (by intro i hi he; first | exact he | (exfalso; have he2 : i = _ := he; omega) | (exfalso; have := he.1; omega)))))))
                | (rw [fldL_3 (f := z[i]) (by assumption) (by assumption) (by assumption)]; exact hW1.nw (by (repeat (first | exact Ch.refl _ | assumption | (refine Ch.fresh ?_ (by assumption) (by intro i hi he; first | exact he | (exfalso; have he2 : i = _ := he; omega) | (exfalso; have := he.1; omega)))))))
                | (rw [fldL_4 (f := z[i]) (by assumption) (by assumption) (by assumption) (by assumption)]; exact hW1.nw (by (repeat (first | exact Ch.refl _ | assumption | (refine Ch.fresh ?_ (by assumption) (by intro i hi he; first | exact he | (exfalso; have he2 : i = _ := he; omega) | (exfalso; have := he.1; omega)))))))
                | (rw [fldL_5 (f := z[i]) (by assumption) (by assumption) (by assumption) (by assumption), List.append_nil]; exact hWi.nw (by (repeat (first | exact Ch.refl _ | assumption | (refine Ch.fresh ?_ (by assumption) (by intro i hi he; first | exact he | (exfalso; have he2 : i = _ := he; omega) | (exfalso; have := he.1; omega)))))))
              · refine W_skip ?_
                refine W_region ?_
                refine L_run (.plain rfl) rfl rfl (r_move (v := .int _ _) rfl) ?_
                refine L_run (.plain rfl) rfl rfl (r_add rfl rfl (by first | exact wr_i64 (by omega) | rfl)) ?_
                refine L_run (.plain rfl) rfl rfl (r_assign (v := .int _ _) rfl) ?_
                refine L_nil ?_
                refine ⟨⟨rfl, rfl, trivial⟩, _, ?_, i + 1, B ++ fldL z[i], (by first
| exact congrArg Value.string (sbf_0 (by assumption))
| exact congrArg Value.string (sbf_1 (by assumption) (by assumption))
| exact congrArg Value.string (sbf_3 (by assumption) (by assumption) (by assumption))
| exact congrArg Value.string (sbf_4 (by assumption) (by assumption) (by assumption) (by assumption))
| exact congrArg Value.string (sbf_5 (by assumption) (by assumption) (by assumption) (by assumption))), rfl, ?_, rfl⟩
                · omega
                refine ⟨by omega, by rw [List.length_append]; omega, ?_, Sl.nw (by (repeat (first | exact Ch.refl _ | assumption | (refine Ch.fresh ?_ (by assumption) (by intro i hi he; first | exact he | (exfalso; have he2 : i = _ := he; omega) | (exfalso; have := he.1; omega)))))) hs0, by (repeat (first | exact Ch.refl _ | assumption | (refine Ch.fresh ?_ (by assumption) (by intro i hi he; first | exact he | (exfalso; have he2 : i = _ := he; omega) | (exfalso; have := he.1; omega)))))⟩
                first
                | (rw [fldL_0 (f := z[i]) (by assumption)]; exact hW1.nw (by (repeat (first | exact Ch.refl _ | assumption | (refine Ch.fresh ?_ (by assumption) (by intro i hi he; first | exact he | (exfalso; have he2 : i = _ := he; omega) | (exfalso; have := he.1; omega)))))))
                | (rw [fldL_1 (f := z[i]) (by assumption) (by assumption)]; exact hW1.nw (by (repeat (first | exact Ch.refl _ | assumption | (refine Ch.fresh ?_ (by assumption) (by intro i hi he; first | exact he | (exfalso; have he2 : i = _ := he; omega) | (exfalso; have := he.1; omega)))))))
                | (rw [fldL_3 (f := z[i]) (by assumption) (by assumption) (by assumption)]; exact hW1.nw (by (repeat (first | exact Ch.refl _ | assumption | (refine Ch.fresh ?_ (by assumption) (by intro i hi he; first | exact he | (exfalso; have he2 : i = _ := he; omega) | (exfalso; have := he.1; omega)))))))
                | (rw [fldL_4 (f := z[i]) (by assumption) (by assumption) (by assumption) (by assumption)]; exact hW1.nw (by (repeat (first | exact Ch.refl _ | assumption | (refine Ch.fresh ?_ (by assumption) (by intro i hi he; first | exact he | (exfalso; have he2 : i = _ := he; omega) | (exfalso; have := he.1; omega)))))))
                | (rw [fldL_5 (f := z[i]) (by assumption) (by assumption) (by assumption) (by assumption), List.append_nil]; exact hWi.nw (by (repeat (first | exact Ch.refl _ | assumption | (refine Ch.fresh ?_ (by assumption) (by intro i hi he; first | exact he | (exfalso; have he2 : i = _ := he; omega) | (exfalso; have := he.1; omega)))))))
    · refine W_exit ?_
      repeat (first | refine blk_hit ?_ | refine blk_miss rfl ?_)
      refine W_seq ?_
      refine W_region ?_
      refine L_run (.plain rfl) rfl rfl (r_move (v := .pointer _) rfl) ?_
      refine L_call (.plain rfl) rfl rfl (r_call Tryd.func25 rfl rfl rfl (by rfl)) (bytes_walk _ b1 _ _ (hWi.nw (by (repeat (first | exact Ch.refl _ | assumption | (refine Ch.fresh ?_ (by assumption) (by intro i hi he; first | exact he | (exfalso; have he2 : i = _ := he; omega) | (exfalso; have := he.1; omega))))))) (by omega)) ?_
      rintro v91 w21 ⟨v2, rfl, how, c21⟩
      have hz21 := c21.size
      refine L_run (.plain rfl) rfl rfl (r_bstr Tryd.underlying26 Tryd.underlying5 Tryd.underlying9 (by conv => lhs; whnf) (by (exact Sl.to (by first | assumption | exact Sl.own (by assumption) | exact Mu.sl (by assumption) | exact Ow.sl (by assumption)) (fun i hi => by (repeat (first | exact Sm.refl _ _ | (refine Sm.stepT (by assumption) (by intro hlt hsm; first | exact not_no | exact bk_not (by assumption) hsm rfl) ?_))))))) ?_
      refine L_run (.plain rfl) rfl rfl (r_move (v := .string _) rfl) ?_
      refine L_run (.plain rfl) rfl rfl (r_eqls rfl rfl) ?_
      refine L_run (.plain rfl) rfl rfl (r_assign (v := .bool _) rfl) ?_
      refine L_nil ?_
      refine W_ret ?_
      refine ret1 (v := .bool _) rfl rfl ?_
      first
      | exact ⟨rfl, by (repeat (first | exact Ch.refl _ | assumption | (refine Ch.fresh ?_ (by assumption) (by intro i hi he; first | exact he | (exfalso; have he2 : i = _ := he; omega) | (exfalso; have := he.1; omega)))))⟩
      | exact ⟨congrArg Value.bool (decide_eq_true rfl), by (repeat (first | exact Ch.refl _ | assumption | (refine Ch.fresh ?_ (by assumption) (by intro i hi he; first | exact he | (exfalso; have he2 : i = _ := he; omega) | (exfalso; have := he.1; omega)))))⟩
end Go.Proofs.YtikpcphlmlgojaaDoor

