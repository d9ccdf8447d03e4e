/- Whatever is read is the document's: PackReads, walked. -/
import Derived.Test.YtikpcphlmlgojaaDoorPackK
import Derived.OpenShut
namespace Go.Proofs.YtikpcphlmlgojaaDoor
open Go Go.RowKit
set_option linter.unusedVariables false
set_option linter.unusedSimpArgs false
theorem r_idxarrSl {P : Program} {w : World} {f : Fr} {dst : Option Tmp} {ty : TypeId} {pos : String} {af : Array Edge} {g : Option (Nat × Bool)} {x y : Operand} {t e : TypeId} {m sz o : Nat} {v : Value} {k : IntKind} {i : Int} (hu : P.underlying t = some (.array m e)) (hz : (P.info? e).map (·.size) = some sz) (hx : ev f x = .pointer (some (at_ v o))) (hy : ev f y = .int k i) (h0 : 0 ≤ i) (h1 : i < m) {j : Nat} (hj : o + i.toNat * sz = j) :
    (execOp (ev f) ⟨dst, .indexAddr t x y, ty, pos, af, g⟩).run P w = .ok (.value (.pointer (some (at_ v j)))) w := by
  subst hj
  obtain ⟨inf, hi1, hi2⟩ := Option.map_eq_some_iff.1 hz
  have he : P.elem t = e := by simp [Program.elem, hu]
  have hl : P.arrayLen t = m := by simp [Program.arrayLen, hu]
  simp [execOp, hx, hy, run_indexAt_array w t _ k i (by rw [he, hl]; exact hu), he, hl, h0, h1, sizeOf, typeInfo, hi1, hi2, at_add]
def pcells (p : Int × Int) : List Value := [.int .i64 p.1, .int .i64 p.2]
def cellsP (z : List (Int × Int)) : List Value := z.flatMap pcells
theorem cellsP_row : ∀ (z : List (Int × Int)) (i : Nat) (h : i < z.length) (j : Nat) (u : Value), (pcells z[i])[j]? = some u → (cellsP z)[i * 2 + j]? = some u
  | x :: z, 0, _, j, u, hj => by
    have hj5 : j < 2 := by have := (List.getElem?_eq_some_iff.1 hj).1; simpa [pcells] using this
    simp only [cellsP, List.flatMap_cons, Nat.zero_mul, Nat.zero_add]
    rw [List.getElem?_append_left (by simpa [pcells] using hj5)]
    exact hj
  | x :: z, i + 1, h, j, u, hj => by
    have := cellsP_row z i (by simpa using h) j u hj
    simp only [cellsP, List.flatMap_cons]
    rw [List.getElem?_append_right (by simp [pcells]; omega)]
    rw [show (i + 1) * 2 + j - (pcells x).length = i * 2 + j by simp [pcells]; omega]
    exact this
theorem cellsP_0 (z : List (Int × Int)) (i : Nat) (h : i < z.length) : (cellsP z)[i * 2]? = some (.int .i64 z[i].1) := cellsP_row z i h 0 _ rfl
theorem cellsP_1 (z : List (Int × Int)) (i : Nat) (h : i < z.length) : (cellsP z)[i * 2 + 1]? = some (.int .i64 z[i].2) := cellsP_row z i h 1 _ rfl
theorem rd_57 {H : Type} {enc : TypeId × Value → H} {W : World} {b0 j : Nat} {v : Value} {d : DataW H} {p : List MemPlace} {R : Prop} (_ : R) (_ : 0 = 0) (_ : 0 = 0)
    (hok : Value.okWide Tryd.prog W .any b0 57 v) (h : DataW.Trod enc Tryd.prog W 0 (fun _ => true) true 57 v d p) : ∃ z : List (Int × Int), Sl W v 2 z.length (cellsP z) ∧ ∀ q ∈ z, -9223372036854775808 ≤ q.2 ∧ q.2 ≤ 9223372036854775807 := by
  obtain ⟨z, hz, hq⟩ := sl_arg pcells 2 (fun q => -9223372036854775808 ≤ q.2 ∧ q.2 ≤ 9223372036854775807) (fun _ => rfl) Tryd.underlying57 rfl (fun n cs y hy => by
    obtain ⟨xs, m, _, _, hl, hxl, hf⟩ := DataW.trod_array Tryd.underlying58 hy
    have hl2 : cs.length = 2 := hl
    match cs, hl2 with
    | [c0, c1], _ =>
      have g0 := hf 0 (by decide)
      have g1 := hf 1 (by decide)
      rw [List.getElem?_eq_getElem (by rw [hxl]; decide)] at g0 g1
      obtain ⟨n0, e0, _⟩ := DataW.trod_int Tryd.underlying3 g0
      obtain ⟨n1, e1, _, k1⟩ := DataW.trod_int Tryd.underlying3 g1
      have f0 : c0 = .int .i64 n0 := (List.cons.inj e0).1
      have f1 : c1 = .int .i64 n1 := (List.cons.inj e1).1
      exact ⟨(n0, n1), by rw [f0, f1]; rfl, wf_i64 k1⟩) hok h
  exact ⟨z, hz, hq⟩
/-- What the document reads, and where the reader stands behind it. -/
theorem getV_form (kind most : Int) (l : List UInt8) (a : Nat) (e : Int) (he : e = 0) (rest : ByteArray) (hr : bs rest = l.drop a) : ∃ (f : Fld) (rest' : ByteArray) (a' : Nat) (e' : Int), getV kind most rest = .tuple #[f.v, .string rest', .int .i64 e'] ∧ nxt (a, e) (rdF kind most (l.drop a)).1 (rdF kind most (l.drop a)).2.2 = (a', e') ∧ bs rest' = l.drop a' ∧
    (e' = 0 → f = gotF (a, e) kind most (l.drop a)) ∧ (e' ≠ 0 → gotF (a, e) kind most (l.drop a) = Fld.none kind most ∧ a' = a) := by
  subst he
  by_cases h : (rdF kind most (bs rest)).1 = 0
  · refine ⟨(rdF kind most (bs rest)).2.1, rest.extract (rdF kind most (bs rest)).2.2 rest.size, a + (rdF kind most (l.drop a)).2.2, 0, ?_, ?_, ?_, ?_, fun h => absurd rfl h⟩
    · rw [getV, if_pos h]
    · rw [← hr, nxt_ok h, h]
    · rw [bs_extract_l, hr, List.drop_drop]
    · intro _
      rw [gotF, ← hr, if_pos ⟨rfl, h⟩]
  · refine ⟨Fld.none kind most, rest, a, (rdF kind most (bs rest)).1, ?_, ?_, hr, fun h' => absurd h' h, fun _ => ⟨?_, rfl⟩⟩
    · rw [getV, if_neg h]
    · rw [← hr, nxt_err h]
    · rw [gotF, ← hr, if_neg (fun h' => h h'.2)]
section
variable {a a' k : Nat} {e e' E : Int}
theorem at_1 (he : e = 0) (hn : nxt (a, e) E k = (a', e')) (h : e' = 0) : (if e = 0 then 0 else (a : Int)) = if (nxt (a, e) E k).2 = 0 then 0 else ((nxt (a, e) E k).1 : Int) := by rw [hn, if_pos he, if_pos h]
theorem at_2 {n m : Nat} (hn : nxt (a, e) E k = (a', e')) (h : e' ≠ 0) (ha : a' = a) (hs : m = n - a) (hl : a ≤ n) : (n : Int) - (m : Int) = if (nxt (a, e) E k).2 = 0 then 0 else ((nxt (a, e) E k).1 : Int) := by
  rw [hn, if_neg h, ha, hs]
  show (n : Int) - ((n - a : Nat) : Int) = (a : Int)
  omega
theorem at_3 (he : ¬ e = 0) : (if e = 0 then 0 else (a : Int)) = if (nxt (a, e) E k).2 = 0 then 0 else ((nxt (a, e) E k).1 : Int) := by rw [nxt_bad he]
theorem er_1 (hn : nxt (a, e) E k = (a', e')) : e' = (nxt (a, e) E k).2 := by rw [hn]
theorem er_3 (he : ¬ e = 0) : e = (nxt (a, e) E k).2 := by rw [nxt_bad he]
end
theorem rget_to (kind most : Int) (s : ByteArray) (w0 : World) (hm : -9223372036854775808 ≤ most ∧ most ≤ 9223372036854775807) (hs : s.size ≤ 100000000) {f : Fld} {rest' : ByteArray} {e' : Int} (hg : getV kind most s = .tuple #[f.v, .string rest', .int .i64 e']) :
    Does Tryd.prog 34 #[.int .i64 kind, .int .i64 most, .string s] w0 fun r w' => r = .tuple #[.agg #[.int .i64 f.kind, .int .i64 f.most, .int .u64 f.n, .int .i64 f.i, .bool f.yes, .string f.s], .string rest', .int .i64 e'] ∧ Nw w0 w' :=
  (rget_walk kind most s w0 hm hs).mono fun r w' ⟨h1, h2⟩ => ⟨h1.trans hg, h2⟩
theorem lget_to {base b : Nat} {v : Value} {l : List UInt8} {a : Nat} {e : Int} {kind most : Int} {w : World} (hR : RdAt base w b v l a e) (hT : Tabs base w) (hm : most ≤ 9223372036854775807) (hb : base ≤ w.heap.size) {f : Fld} {a' : Nat} {e' : Int} (hf : f = gotF (a, e) kind most (l.drop a)) (hn : nxt (a, e) (rdF kind most (l.drop a)).1 (rdF kind most (l.drop a)).2.2 = (a', e')) :
    Does Tryd.prog 35 #[.pointer (some ⟨b, 0, none⟩), .int .i64 kind, .int .i64 most] w fun r w' => r = .agg #[.int .i64 f.kind, .int .i64 f.most, .int .u64 f.n, .int .i64 f.i, .bool f.yes, .string f.s] ∧ RdAt base w' b v l a' e' ∧ Ch (fun j => j = b) w w' :=
  (lget_walk base b v l a e kind most w hR hT hm hb).mono fun r w' ⟨h1, h2, h3⟩ => by
    rw [← hf] at h1
    rw [hn] at h2
    exact ⟨h1, h2, h3⟩
set_option maxHeartbeats 1000000 in
set_option maxRecDepth 100000 in
theorem PackReads_walk (s : ByteArray) (v1 : Value) (z : List (Int × Int)) (w0 : World) (x0 : s.size ≤ 140737488351232) (y1 : Sl w0 v1 2 z.length (cellsP z) ∧ ∀ q ∈ z, -9223372036854775808 ≤ q.2 ∧ q.2 ≤ 9223372036854775807) (hT : Tabs w0.heap.size w0) : Does Tryd.prog 9 #[.string s, v1] w0 (fun r w' => r = .bool true ∧ Nw w0 w') := by
  have hbl := bs_length s
  obtain ⟨hs0, hok⟩ := y1
  refine fn_of (n := 146) (args := [.string s, v1]) Tryd.func9 rfl rfl rfl ?_
  refine W_seq ?_
  refine W_region ?_
  refine L_run (.plain rfl) rfl rfl (r_assign (v := .bool _) rfl) ?_
  refine L_nil ?_
  refine W_seq ?_
  refine W_seq ?_
  refine W_region ?_
  refine L_run (.plain rfl) rfl rfl (r_move (v := .string _) rfl) ?_
  refine L_run (.plain rfl) rfl rfl (r_lens Tryd.underlying9 rfl) ?_
  refine L_run (.plain rfl) rfl rfl (r_gtr rfl rfl) ?_
  refine L_run (.plain rfl) rfl rfl (r_move (v := .bool _) rfl) ?_
  refine L_case (d := 21) rfl (fun h21 => ?_) (fun h21 => ?_)
  · refine L_pass rfl rfl rfl rfl rfl ?_
    refine L_pass rfl rfl rfl rfl rfl ?_
    refine L_pass rfl rfl rfl rfl rfl ?_
    refine L_run (.plain rfl) rfl rfl (r_pick_t (v := .bool _) rfl rfl) ?_
    refine L_nil ?_
    refine W_true rfl ?_
    refine W_seq ?_
    refine W_region ?_
    refine L_call (.plain rfl) rfl rfl (r_call Tryd.func11 rfl rfl rfl (by rfl)) (awake_walk w0.heap.size _ (hT.nw (by (repeat (first | exact Ch.refl _ | assumption | (refine Ch.fresh ?_ (by assumption) (by intro i hi he; first | exact he | (exfalso; have he2 : i = _ := he; omega)))))) (by omega)) (by omega)) ?_
    rintro v26 w1 ⟨rfl, c1⟩
    have hz1 := c1.size
    refine L_run (.plain rfl) rfl rfl (r_assign (v := .bool _) rfl) ?_
    refine L_nil ?_
    refine W_ret ?_
    refine ret1 (v := .bool _) rfl rfl ?_
    refine ⟨?_, by (repeat (first | exact Ch.refl _ | assumption | (refine Ch.fresh ?_ (by assumption) (by intro i hi he; first | exact he | (exfalso; have he2 : i = _ := he; omega)))))⟩
    first
    | (have q := ba_pos h126
       refine congrArg Value.bool (decide_eq_true ?_)
       split <;> omega)
    | (exfalso
       have q := ba_pos h126
       apply h129
       split <;> omega)
    | (have q := congrArg List.length (ba_nil h126)
       rw [bs_length] at q
       have q2 : rest.size = 0 := q
       refine congrArg Value.bool (decide_eq_true ?_)
       (repeat' split) <;> omega)
    | (exfalso
       have q := congrArg List.length (ba_nil h126)
       rw [bs_length] at q
       have q2 : rest.size = 0 := q
       apply h141
       split <;> omega)
    | (refine congrArg Value.bool (decide_eq_true ?_)
       (repeat' split) <;> omega)
    | (exfalso
       apply h141
       split <;> omega)
    | exact rfl
  · refine L_run (.yes 3 false rfl rfl) rfl rfl (r_move (by conv => lhs; whnf)) ?_
    refine L_run (.yes 3 false rfl rfl) rfl rfl (r_lenSl Tryd.underlying57 (by conv => lhs; whnf) (by (exact Sl.to (by first | assumption | exact Sl.own (by assumption) | exact Mu.sl (by assumption) | exact Ow.sl (by assumption)) (fun i hi => by (repeat (first | exact Sm.refl _ _ | (refine Sm.stepT (by assumption) (by intro hlt hsm; first | exact not_no | (intro he; have he2 : _ = _ := he; omega)) ?_))))))) ?_
    refine L_run (.yes 3 false rfl rfl) rfl rfl (r_gtr rfl rfl) ?_
    refine L_run (.plain rfl) rfl rfl (r_pick_f (v := .bool _) rfl rfl) ?_
    refine L_nil ?_
    refine W_if rfl (fun h25 => ?_) (fun h25 => ?_)
    · refine W_seq ?_
      refine W_region ?_
      refine L_call (.plain rfl) rfl rfl (r_call Tryd.func11 rfl rfl rfl (by rfl)) (awake_walk w0.heap.size _ (hT.nw (by (repeat (first | exact Ch.refl _ | assumption | (refine Ch.fresh ?_ (by assumption) (by intro i hi he; first | exact he | (exfalso; have he2 : i = _ := he; omega)))))) (by omega)) (by omega)) ?_
      rintro v26 w2 ⟨rfl, c2⟩
      have hz2 := c2.size
      refine L_run (.plain rfl) rfl rfl (r_assign (v := .bool _) rfl) ?_
      refine L_nil ?_
      refine W_ret ?_
      refine ret1 (v := .bool _) rfl rfl ?_
      refine ⟨?_, by (repeat (first | exact Ch.refl _ | assumption | (refine Ch.fresh ?_ (by assumption) (by intro i hi he; first | exact he | (exfalso; have he2 : i = _ := he; omega)))))⟩
      first
      | (have q := ba_pos h126
         refine congrArg Value.bool (decide_eq_true ?_)
         split <;> omega)
      | (exfalso
         have q := ba_pos h126
         apply h129
         split <;> omega)
      | (have q := congrArg List.length (ba_nil h126)
         rw [bs_length] at q
         have q2 : rest.size = 0 := q
         refine congrArg Value.bool (decide_eq_true ?_)
         (repeat' split) <;> omega)
      | (exfalso
         have q := congrArg List.length (ba_nil h126)
         rw [bs_length] at q
         have q2 : rest.size = 0 := q
         apply h141
         split <;> omega)
      | (refine congrArg Value.bool (decide_eq_true ?_)
         (repeat' split) <;> omega)
      | (exfalso
         apply h141
         split <;> omega)
      | exact rfl
    · refine W_skip ?_
      refine W_seq ?_
      refine W_region ?_
      refine L_run (.plain rfl) rfl rfl (r_move (v := .string _) rfl) ?_
      refine L_sbytes Tryd.underlying9 Tryd.underlying26 Tryd.underlying5 (by first | omega | (simp only [sb_size, ByteArray.size_append]; omega)) (.plain rfl) rfl rfl (fun v28 w3 hv28 c3 eb3 hs3 => ?_)
      refine L_call (.plain rfl) rfl rfl (r_call Tryd.func27 rfl rfl rfl (by rfl)) (read_walk _ (bs s) _ (by (exact Sl.to (by first | assumption | exact Sl.own (by assumption) | exact Mu.sl (by assumption) | exact Ow.sl (by assumption)) (fun i hi => by (repeat (first | exact Sm.refl _ _ | (refine Sm.stepT (by assumption) (by intro hlt hsm; first | exact not_no | (intro he; have he2 : _ = _ := he; omega)) ?_)))))) (by omega)) ?_
      rintro v29 w4 ⟨b3, v3, rfl, hR3, c4⟩
      have hz4 := c4.size
      have hlo3 := hR3.hb
      have hlt3 := hR3.bk.lt
      refine L_run (.plain rfl) rfl rfl (r_assign (v := .pointer _) rfl) ?_
      refine L_nil ?_
      refine W_seq ?_
      refine W_seq ?_
      refine W_region ?_
      refine L_call (.plain rfl) rfl rfl (r_call Tryd.func11 rfl rfl rfl (by rfl)) (awake_walk w0.heap.size _ (hT.nw (by (repeat (first | exact Ch.refl _ | assumption | (refine Ch.fresh ?_ (by assumption) (by intro i hi he; first | exact he | (exfalso; have he2 : i = _ := he; omega)))))) (by omega)) (by omega)) ?_
      rintro v30 w5 ⟨rfl, c5⟩
      have hz5 := c5.size
      refine L_run (.plain rfl) rfl rfl (r_not rfl) ?_
      refine L_as (v := .bool _) (v' := .bool false) 31 rfl (congrArg Value.bool (by simp)) ?_
      refine L_run (.plain rfl) rfl rfl (r_move (v := .bool _) rfl) ?_
      refine L_run (.yes 2 false rfl rfl) rfl rfl (r_move (v := .pointer _) rfl) ?_
      refine L_run (.yes 2 false rfl rfl) rfl rfl (r_eqpnil Tryd.underlying46 rfl rfl) ?_
      refine L_as (v := .bool _) (v' := .bool false) 34 rfl (congrArg Value.bool (by simp)) ?_
      refine L_run (.plain rfl) rfl rfl (r_pick_f (v := .bool _) rfl rfl) ?_
      refine L_nil ?_
      refine W_false rfl ?_
      refine W_skip ?_
      refine W_seq ?_
      refine W_region ?_
      refine L_run (.plain rfl) rfl rfl (r_move (v := .string _) rfl) ?_
      refine L_run (.plain rfl) rfl rfl (r_assign (v := .string _) rfl) ?_
      refine L_run (.plain rfl) rfl rfl (r_assign (v := .int _ _) rfl) ?_
      refine L_run (.plain rfl) rfl rfl (r_assign (v := .int _ _) rfl) ?_
      refine L_nil ?_
      refine W_seq ?_
      refine W_seq ?_
      refine W_region ?_
      refine L_run (.plain rfl) rfl rfl (r_assign (v := .int _ _) rfl) ?_
      refine L_nil ?_
      refine W_block ?_
      refine W_loopF [0, 1, 5] (fun mz_ f W => ∃ (i : Nat) (a : Nat) (e : Int) (rest : ByteArray), f 6 = .string rest ∧ f 7 = .int .i64 e ∧ f 8 = .int .i64 (if e = 0 then 0 else a) ∧ f 9 = .int .i64 i ∧ (i ≤ z.length ∧ RdAt w0.heap.size W b3 v3 (bs s) a e ∧ bs rest = (bs s).drop a ∧ Nw w0 W) ∧ mz_ = z.length - i) ?_ ?_
      · refine ⟨_, 0, 0, 0, s, rfl, rfl, rfl, rfl, ?_, rfl⟩
        exact ⟨by omega, (hR3.down (by omega)).nw (by (repeat (first | exact Ch.refl _ | assumption | (refine Ch.fresh ?_ (by assumption) (by intro i hi he; first | exact he | (exfalso; have he2 : i = _ := he; omega)))))), by rw [List.drop_zero], by (repeat (first | exact Ch.refl _ | assumption | (refine Ch.fresh ?_ (by assumption) (by intro i hi he; first | exact he | (exfalso; have he2 : i = _ := he; omega)))))⟩
      rintro m0 g0 w6 ⟨i, a, e, rest, hf6, hf7, hf8, hf9, hR0, rfl⟩
      refine W_as 6 hf6 rfl ?_
      refine W_as 7 hf7 rfl ?_
      refine W_as 8 hf8 rfl ?_
      refine W_as 9 hf9 rfl ?_
      clear hf6 hf7 hf8 hf9
      obtain ⟨hi, hR, hrest, hnw⟩ := hR0
      have hz := hnw.size
      have hrl := congrArg List.length hrest
      rw [bs_length, List.length_drop] at hrl
      refine W_seq ?_
      refine W_seq ?_
      refine W_region ?_
      refine L_run (.plain rfl) rfl rfl (r_move (v := .int _ _) rfl) ?_
      refine L_run (.plain rfl) rfl rfl (r_move (by conv => lhs; whnf)) ?_
      refine L_run (.plain rfl) rfl rfl (r_lenSl Tryd.underlying57 (by conv => lhs; whnf) (by (exact Sl.to (by first | assumption | exact Sl.own (by assumption) | exact Mu.sl (by assumption) | exact Ow.sl (by assumption)) (fun i hi => by (repeat (first | exact Sm.refl _ _ | (refine Sm.stepT (by assumption) (by intro hlt hsm; first | exact not_no | (intro he; have he2 : _ = _ := he; omega)) ?_))))))) ?_
      refine L_run (.plain rfl) rfl rfl (r_lss rfl rfl) ?_
      refine L_nil ?_
      refine W_if rfl (fun h40 => ?_) (fun h40 => ?_)
      · have hin : i < z.length := by omega
        have hmi := hok z[i] (List.getElem_mem hin)
        have hlow := hR.hb
        have how := hR.ow
        have hal := hR.ha
        have hltb := hR.bk.lt
        refine W_skip ?_
        refine W_seq ?_
        refine W_block ?_
        refine W_seq ?_
        refine W_draw (fun W => Sl W v1 2 z.length (cellsP z)) 12 (m := 13) (by kernel_rfl) rfl (fun w7 c7 hs7 => ?_)
        refine held (by exact Sl.nw (by (repeat (first | exact Ch.refl _ | assumption | (refine Ch.fresh ?_ (by assumption) (by intro i hi he; first | exact he | (exfalso; have he2 : i = _ := he; omega)))))) hs0) (fun hS => ?_)
        refine D_take 0 rfl (by kernel_rfl) (by kernel_rfl) (by kernel_rfl) (by kernel_rfl) (.plain rfl) rfl rfl (by assumption) (fun W hW => r_move (by conv => lhs; whnf)) ?_
        refine D_take 1 rfl (by kernel_rfl) (by kernel_rfl) (by kernel_rfl) (by kernel_rfl) (.plain rfl) rfl rfl (by assumption) (fun W hW => r_move (v := .int _ _) rfl) ?_
        refine D_take 2 rfl (by kernel_rfl) (by kernel_rfl) (by kernel_rfl) (by kernel_rfl) (.plain rfl) rfl rfl (by assumption) (fun W hW => r_idxSl Tryd.underlying57 (show _ = some 2 from rfl) (by conv => lhs; whnf) rfl (by exact hW) (by omega) (by omega) (by conv => lhs; (try simp only [Nat.mul_one, Nat.zero_add, Int.toNat_natCast, Int.toNat_zero, Int.reduceToNat, Nat.reduceMul, Nat.reduceAdd]))) ?_
        refine D_take 3 rfl (by kernel_rfl) (by kernel_rfl) (by kernel_rfl) (by kernel_rfl) (.plain rfl) rfl rfl (by assumption) (fun W hW => r_idxarrSl Tryd.underlying58 (show _ = some 1 from rfl) rfl rfl (by omega) (by omega) (by conv => lhs; (try simp only [Nat.mul_one, Nat.zero_add, Int.toNat_natCast, Int.toNat_zero, Int.reduceToNat, Nat.reduceMul, Nat.reduceAdd]))) ?_
        refine D_take 4 rfl (by kernel_rfl) (by kernel_rfl) (by kernel_rfl) (by kernel_rfl) (.plain rfl) rfl rfl (by assumption) (fun W hW => r_loadSl rfl rfl (by exact hW) (by first | assumption | exact cellsP_0 z i (by omega) | exact cellsP_1 z i (by omega) | (conv => lhs; simp only [List.getElem?_toArray, List.getElem?_cons_succ, List.getElem?_cons_zero]))) ?_
        refine D_take 5 rfl (by kernel_rfl) (by kernel_rfl) (by kernel_rfl) (by kernel_rfl) (.plain rfl) rfl rfl (by assumption) (fun W hW => r_move (by conv => lhs; whnf)) ?_
        refine D_take 6 rfl (by kernel_rfl) (by kernel_rfl) (by kernel_rfl) (by kernel_rfl) (.plain rfl) rfl rfl (by assumption) (fun W hW => r_move (v := .int _ _) rfl) ?_
        refine D_take 7 rfl (by kernel_rfl) (by kernel_rfl) (by kernel_rfl) (by kernel_rfl) (.plain rfl) rfl rfl (by assumption) (fun W hW => r_idxSl Tryd.underlying57 (show _ = some 2 from rfl) (by conv => lhs; whnf) rfl (by exact hW) (by omega) (by omega) (by conv => lhs; (try simp only [Nat.mul_one, Nat.zero_add, Int.toNat_natCast, Int.toNat_zero, Int.reduceToNat, Nat.reduceMul, Nat.reduceAdd]))) ?_
        refine D_take 8 rfl (by kernel_rfl) (by kernel_rfl) (by kernel_rfl) (by kernel_rfl) (.plain rfl) rfl rfl (by assumption) (fun W hW => r_idxarrSl Tryd.underlying58 (show _ = some 1 from rfl) rfl rfl (by omega) (by omega) (by conv => lhs; (try simp only [Nat.mul_one, Nat.zero_add, Int.toNat_natCast, Int.toNat_zero, Int.reduceToNat, Nat.reduceMul, Nat.reduceAdd]))) ?_
        refine D_take 9 rfl (by kernel_rfl) (by kernel_rfl) (by kernel_rfl) (by kernel_rfl) (.plain rfl) rfl rfl (by assumption) (fun W hW => r_loadSl rfl rfl (by exact hW) (by first | assumption | exact cellsP_0 z i (by omega) | exact cellsP_1 z i (by omega) | (conv => lhs; simp only [List.getElem?_toArray, List.getElem?_cons_succ, List.getElem?_cons_zero]))) ?_
        refine D_take 10 rfl (by kernel_rfl) (by kernel_rfl) (by kernel_rfl) (by kernel_rfl) (.plain rfl) rfl rfl (by assumption) (fun W hW => r_build1 (pl := [(0, 1), (1, 1), (2, 1), (3, 1), (4, 1), (5, 1)]) (vs := [(0, .int _ _), (1, .int _ _)]) (cells := [_, _, _, _, _, _]) Tryd.underlying35 rfl rfl (by rfl) rfl (by rfl)) ?_
        refine D_ev 11 (by kernel_rfl) rfl ?_
        refine L_new (.plain rfl) rfl rfl (r_alloca rfl) (fun w8 b10 hb10 eb8 hs8 c8 => ?_)
        refine L_nil ?_
        refine heldK (by exact Sl.nw (by (repeat (first | exact Ch.refl _ | assumption | (refine Ch.fresh ?_ (by assumption) (by intro i hi he; first | exact he | (exfalso; have he2 : i = _ := he; omega)))))) hs0) (fun hS => ?_)
        refine D_ev 12 (by kernel_rfl) rfl ?_
        refine L_storerow (.plain rfl) rfl rfl (by (exact Bk.to (by assumption) (by (repeat (first | exact Sm.refl _ _ | (refine Sm.stepT (by assumption) (by intro hlt hsm; first | exact not_no | (intro he; have he2 : _ = _ := he; omega)) ?_)))))) (by first | rfl | (simp; done) | assumption) (by first | rfl | assumption) (by first | rfl | (simp [Value.oneCell']; done) | assumption) (fun w9 hb9 hs9 c9 => ?_)
        refine L_nil ?_
        refine heldL ?_
        refine D_done (by kernel_rfl) ?_
        refine W_seq ?_
        refine W_seq ?_
        refine W_region ?_
        refine L_run (.plain rfl) rfl rfl (r_move (v := .int _ _) rfl) ?_
        refine L_run (.plain rfl) rfl rfl (r_eql rfl rfl) ?_
        refine L_nil ?_
        refine W_endF [0, 1, 5, 9, 10] (fun f W => ∃ (want : Fld) (rest1 : ByteArray) (a1 : Nat) (e1 : Int), f 6 = .string rest1 ∧ f 7 = .int .i64 e1 ∧ f 8 = .int .i64 (if e1 = 0 then 0 else a1) ∧ (want = gotF (a, e) z[i].1 z[i].2 ((bs s).drop a) ∧ nxt (a, e) (rdF z[i].1 z[i].2 ((bs s).drop a)).1 (rdF z[i].1 z[i].2 ((bs s).drop a)).2.2 = (a1, e1) ∧ bs rest1 = (bs s).drop a1 ∧ Bk W b10 #[.int .i64 want.kind, .int .i64 want.most, .int .u64 want.n, .int .i64 want.i, .bool want.yes, .string want.s] 35 ∧ RdAt w0.heap.size W b3 v3 (bs s) a e ∧ Nw w0 W)) ?_ ?_
        · refine W_if rfl (fun h55 => ?_) (fun h55 => ?_)
          · obtain ⟨f, rest', a', e', hg, hn, hr', hf0, hf1⟩ := getV_form z[i].1 z[i].2 (bs s) a e h55 rest hrest
            refine W_seq ?_
            refine W_draw (fun W => Sl W v1 2 z.length (cellsP z)) 20 (m := 20) (by kernel_rfl) rfl (fun w10 c10 hs10 => ?_)
            refine held (by exact Sl.nw (by (repeat (first | exact Ch.refl _ | assumption | (refine Ch.fresh ?_ (by assumption) (by intro i hi he; first | exact he | (exfalso; have he2 : i = _ := he; omega)))))) hs0) (fun hS => ?_)
            refine D_take 0 rfl (by kernel_rfl) (by kernel_rfl) (by kernel_rfl) (by kernel_rfl) (.plain rfl) rfl rfl (by assumption) (fun W hW => r_move (by conv => lhs; whnf)) ?_
            refine D_take 1 rfl (by kernel_rfl) (by kernel_rfl) (by kernel_rfl) (by kernel_rfl) (.plain rfl) rfl rfl (by assumption) (fun W hW => r_move (v := .int _ _) rfl) ?_
            refine D_take 2 rfl (by kernel_rfl) (by kernel_rfl) (by kernel_rfl) (by kernel_rfl) (.plain rfl) rfl rfl (by assumption) (fun W hW => r_idxSl Tryd.underlying57 (show _ = some 2 from rfl) (by conv => lhs; whnf) rfl (by exact hW) (by omega) (by omega) (by conv => lhs; (try simp only [Nat.mul_one, Nat.zero_add, Int.toNat_natCast, Int.toNat_zero, Int.reduceToNat, Nat.reduceMul, Nat.reduceAdd]))) ?_
            refine D_take 3 rfl (by kernel_rfl) (by kernel_rfl) (by kernel_rfl) (by kernel_rfl) (.plain rfl) rfl rfl (by assumption) (fun W hW => r_idxarrSl Tryd.underlying58 (show _ = some 1 from rfl) rfl rfl (by omega) (by omega) (by conv => lhs; (try simp only [Nat.mul_one, Nat.zero_add, Int.toNat_natCast, Int.toNat_zero, Int.reduceToNat, Nat.reduceMul, Nat.reduceAdd]))) ?_
            refine D_take 4 rfl (by kernel_rfl) (by kernel_rfl) (by kernel_rfl) (by kernel_rfl) (.plain rfl) rfl rfl (by assumption) (fun W hW => r_loadSl rfl rfl (by exact hW) (by first | assumption | exact cellsP_0 z i (by omega) | exact cellsP_1 z i (by omega) | (conv => lhs; simp only [List.getElem?_toArray, List.getElem?_cons_succ, List.getElem?_cons_zero]))) ?_
            refine D_take 5 rfl (by kernel_rfl) (by kernel_rfl) (by kernel_rfl) (by kernel_rfl) (.plain rfl) rfl rfl (by assumption) (fun W hW => r_move (by conv => lhs; whnf)) ?_
            refine D_take 6 rfl (by kernel_rfl) (by kernel_rfl) (by kernel_rfl) (by kernel_rfl) (.plain rfl) rfl rfl (by assumption) (fun W hW => r_move (v := .int _ _) rfl) ?_
            refine D_take 7 rfl (by kernel_rfl) (by kernel_rfl) (by kernel_rfl) (by kernel_rfl) (.plain rfl) rfl rfl (by assumption) (fun W hW => r_idxSl Tryd.underlying57 (show _ = some 2 from rfl) (by conv => lhs; whnf) rfl (by exact hW) (by omega) (by omega) (by conv => lhs; (try simp only [Nat.mul_one, Nat.zero_add, Int.toNat_natCast, Int.toNat_zero, Int.reduceToNat, Nat.reduceMul, Nat.reduceAdd]))) ?_
            refine D_take 8 rfl (by kernel_rfl) (by kernel_rfl) (by kernel_rfl) (by kernel_rfl) (.plain rfl) rfl rfl (by assumption) (fun W hW => r_idxarrSl Tryd.underlying58 (show _ = some 1 from rfl) rfl rfl (by omega) (by omega) (by conv => lhs; (try simp only [Nat.mul_one, Nat.zero_add, Int.toNat_natCast, Int.toNat_zero, Int.reduceToNat, Nat.reduceMul, Nat.reduceAdd]))) ?_
            refine D_take 9 rfl (by kernel_rfl) (by kernel_rfl) (by kernel_rfl) (by kernel_rfl) (.plain rfl) rfl rfl (by assumption) (fun W hW => r_loadSl rfl rfl (by exact hW) (by first | assumption | exact cellsP_0 z i (by omega) | exact cellsP_1 z i (by omega) | (conv => lhs; simp only [List.getElem?_toArray, List.getElem?_cons_succ, List.getElem?_cons_zero]))) ?_
            refine D_take 10 rfl (by kernel_rfl) (by kernel_rfl) (by kernel_rfl) (by kernel_rfl) (.plain rfl) rfl rfl (by assumption) (fun W hW => r_move (v := .string _) rfl) ?_
            refine D_ev2 11 16 (by kernel_rfl) rfl rfl ?_ ?_
            · refine L_call (.plain rfl) rfl rfl (r_call Tryd.func34 rfl rfl rfl (by rfl)) (rget_to z[i].1 z[i].2 rest _ hmi (by omega) hg) ?_
              rintro v68 w11 ⟨rfl, c11⟩
              have hz11 := c11.size
              refine L_nil ?_
              refine heldK (by exact Sl.nw (by (repeat (first | exact Ch.refl _ | assumption | (refine Ch.fresh ?_ (by assumption) (by intro i hi he; first | exact he | (exfalso; have he2 : i = _ := he; omega)))))) hs0) (fun hS => ?_)
              refine D_take 12 rfl (by kernel_rfl) (by kernel_rfl) (by kernel_rfl) (by kernel_rfl) (.plain rfl) rfl rfl (by assumption) (fun W hW => r_move (by conv => lhs; whnf)) ?_
              refine D_take 13 rfl (by kernel_rfl) (by kernel_rfl) (by kernel_rfl) (by kernel_rfl) (.plain rfl) rfl rfl (by assumption) (fun W hW => r_ext3_0 rfl) ?_
              refine D_take 14 rfl (by kernel_rfl) (by kernel_rfl) (by kernel_rfl) (by kernel_rfl) (.plain rfl) rfl rfl (by assumption) (fun W hW => r_ext3_1 rfl) ?_
              refine D_take 15 rfl (by kernel_rfl) (by kernel_rfl) (by kernel_rfl) (by kernel_rfl) (.plain rfl) rfl rfl (by assumption) (fun W hW => r_ext3_2 rfl) ?_
              refine D_ev 16 (by kernel_rfl) rfl ?_
              refine L_new (.plain rfl) rfl rfl (r_alloca rfl) (fun w12 b11 hb11 eb12 hs12 c12 => ?_)
              refine L_nil ?_
              refine heldK (by exact Sl.nw (by (repeat (first | exact Ch.refl _ | assumption | (refine Ch.fresh ?_ (by assumption) (by intro i hi he; first | exact he | (exfalso; have he2 : i = _ := he; omega)))))) hs0) (fun hS => ?_)
              refine D_ev 17 (by kernel_rfl) rfl ?_
              refine L_storerow (.plain rfl) rfl rfl (by (exact Bk.to (by assumption) (by (repeat (first | exact Sm.refl _ _ | (refine Sm.stepT (by assumption) (by intro hlt hsm; first | exact not_no | (intro he; have he2 : _ = _ := he; omega)) ?_)))))) (by first | rfl | (simp; done) | assumption) (by first | rfl | assumption) (by first | rfl | (simp [Value.oneCell']; done) | assumption) (fun w13 hb13 hs13 c13 => ?_)
              refine L_nil ?_
              refine heldK (by exact Sl.nw (by (repeat (first | exact Ch.refl _ | assumption | (refine Ch.fresh ?_ (by assumption) (by intro i hi he; first | exact he | (exfalso; have he2 : i = _ := he; omega)))))) hs0) (fun hS => ?_)
              refine D_take 18 rfl (by kernel_rfl) (by kernel_rfl) (by kernel_rfl) (by kernel_rfl) (.plain rfl) rfl rfl (by assumption) (fun W hW => r_assign (v := .string _) rfl) ?_
              refine D_take 19 rfl (by kernel_rfl) (by kernel_rfl) (by kernel_rfl) (by kernel_rfl) (.plain rfl) rfl rfl (by assumption) (fun W hW => r_assign (v := .int _ _) rfl) ?_
              refine D_done (by kernel_rfl) ?_
              refine W_seq ?_
              refine W_seq ?_
              refine W_region ?_
              refine L_run (.plain rfl) rfl rfl (r_move (v := .int _ _) rfl) ?_
              refine L_run (.plain rfl) rfl rfl (r_eql rfl rfl) ?_
              refine L_nil ?_
              refine W_if rfl (fun h73 => ?_) (fun h73 => ?_)
              · refine W_region ?_
                refine L_run (.plain rfl) rfl rfl (r_loadrow Tryd.underlying35 rfl rfl (by (exact Bk.to (by assumption) (by (repeat (first | exact Sm.refl _ _ | (refine Sm.stepT (by assumption) (by intro hlt hsm; first | exact not_no | (intro he; have he2 : _ = _ := he; omega)) ?_)))))) (by first | rfl | assumption)) ?_
                refine L_storerow (.plain rfl) rfl rfl (by (exact Bk.to (by assumption) (by (repeat (first | exact Sm.refl _ _ | (refine Sm.stepT (by assumption) (by intro hlt hsm; first | exact not_no | (intro he; have he2 : _ = _ := he; omega)) ?_)))))) (by first | rfl | (simp; done) | assumption) (by first | rfl | assumption) (by first | rfl | (simp [Value.oneCell']; done) | assumption) (fun w14 hb14 hs14 c14 => ?_)
                refine L_nil ?_
                refine W_region ?_
                refine L_run (.plain rfl) rfl rfl (r_move (v := .string _) rfl) ?_
                refine L_run (.plain rfl) rfl rfl (r_move (v := .int _ _) rfl) ?_
                refine L_run (.plain rfl) rfl rfl (r_assign (v := .string _) rfl) ?_
                refine L_run (.plain rfl) rfl rfl (r_assign (v := .int _ _) rfl) ?_
                refine L_nil ?_
                refine ⟨⟨rfl, rfl, rfl, rfl, rfl, trivial⟩, gotF (a, e) z[i].1 z[i].2 ((bs s).drop a), _, (nxt (a, e) (rdF z[i].1 z[i].2 ((bs s).drop a)).1 (rdF z[i].1 z[i].2 ((bs s).drop a)).2.2).1, (nxt (a, e) (rdF z[i].1 z[i].2 ((bs s).drop a)).1 (rdF z[i].1 z[i].2 ((bs s).drop a)).2.2).2, rfl, (by first
| exact congrArg (Value.int .i64) (er_1 hn)
| exact congrArg (Value.int .i64) (er_3 h55)), (by first
| exact congrArg (Value.int .i64) (at_1 h55 hn h73)
| exact congrArg (Value.int .i64) (at_2 hn h73 (hf1 h73).2 hrl (by omega))
| exact congrArg (Value.int .i64) (at_3 h55)), ?_⟩
                first
                | (have hgf := hf0 h73
                   refine ⟨rfl, rfl, (by rw [hn]; exact hr'), ?_, hR.nw (by (repeat (first | exact Ch.refl _ | assumption | (refine Ch.fresh ?_ (by assumption) (by intro i hi he; first | exact he | (exfalso; have he2 : i = _ := he; omega)))))), by (repeat (first | exact Ch.refl _ | assumption | (refine Ch.fresh ?_ (by assumption) (by intro i hi he; first | exact he | (exfalso; have he2 : i = _ := he; omega)))))⟩
                   rw [← hgf]
                   (exact Bk.to (by assumption) (by (repeat (first | exact Sm.refl _ _ | (refine Sm.stepT (by assumption) (by intro hlt hsm; first | exact not_no | (intro he; have he2 : _ = _ := he; omega)) ?_))))))
                | (have hgf := (hf1 h73).1
                   refine ⟨rfl, rfl, (by rw [hn]; exact hr'), ?_, hR.nw (by (repeat (first | exact Ch.refl _ | assumption | (refine Ch.fresh ?_ (by assumption) (by intro i hi he; first | exact he | (exfalso; have he2 : i = _ := he; omega)))))), by (repeat (first | exact Ch.refl _ | assumption | (refine Ch.fresh ?_ (by assumption) (by intro i hi he; first | exact he | (exfalso; have he2 : i = _ := he; omega)))))⟩
                   rw [hgf]
                   show Bk _ _ #[.int .i64 z[i].1, .int .i64 z[i].2, .int .u64 0, .int .i64 0, .bool false, .string { data := #[] }] _
                   (exact Bk.to (by assumption) (by (repeat (first | exact Sm.refl _ _ | (refine Sm.stepT (by assumption) (by intro hlt hsm; first | exact not_no | (intro he; have he2 : _ = _ := he; omega)) ?_))))))
                | (refine ⟨rfl, rfl, (by rw [nxt_bad h55]; exact hrest), ?_, hR.nw (by (repeat (first | exact Ch.refl _ | assumption | (refine Ch.fresh ?_ (by assumption) (by intro i hi he; first | exact he | (exfalso; have he2 : i = _ := he; omega)))))), by (repeat (first | exact Ch.refl _ | assumption | (refine Ch.fresh ?_ (by assumption) (by intro i hi he; first | exact he | (exfalso; have he2 : i = _ := he; omega)))))⟩
                   rw [gotF_bad h55]
                   show Bk _ _ #[.int .i64 z[i].1, .int .i64 z[i].2, .int .u64 0, .int .i64 0, .bool false, .string { data := #[] }] _
                   (exact Bk.to (by assumption) (by (repeat (first | exact Sm.refl _ _ | (refine Sm.stepT (by assumption) (by intro hlt hsm; first | exact not_no | (intro he; have he2 : _ = _ := he; omega)) ?_))))))
              · refine W_region ?_
                refine L_run (.plain rfl) rfl rfl (r_move (v := .string _) rfl) ?_
                refine L_run (.plain rfl) rfl rfl (r_lens Tryd.underlying9 rfl) ?_
                refine L_run (.plain rfl) rfl rfl (r_move (v := .string _) rfl) ?_
                refine L_run (.plain rfl) rfl rfl (r_lens Tryd.underlying9 rfl) ?_
                refine L_run (.plain rfl) rfl rfl (r_sub rfl rfl (by first | exact wr_i64 (by omega) | rfl)) ?_
                refine L_run (.plain rfl) rfl rfl (r_assign (v := .int _ _) rfl) ?_
                refine L_nil ?_
                refine W_region ?_
                refine L_run (.plain rfl) rfl rfl (r_move (v := .string _) rfl) ?_
                refine L_run (.plain rfl) rfl rfl (r_move (v := .int _ _) rfl) ?_
                refine L_run (.plain rfl) rfl rfl (r_assign (v := .string _) rfl) ?_
                refine L_run (.plain rfl) rfl rfl (r_assign (v := .int _ _) rfl) ?_
                refine L_nil ?_
                refine ⟨⟨rfl, rfl, rfl, rfl, rfl, trivial⟩, gotF (a, e) z[i].1 z[i].2 ((bs s).drop a), _, (nxt (a, e) (rdF z[i].1 z[i].2 ((bs s).drop a)).1 (rdF z[i].1 z[i].2 ((bs s).drop a)).2.2).1, (nxt (a, e) (rdF z[i].1 z[i].2 ((bs s).drop a)).1 (rdF z[i].1 z[i].2 ((bs s).drop a)).2.2).2, rfl, (by first
| exact congrArg (Value.int .i64) (er_1 hn)
| exact congrArg (Value.int .i64) (er_3 h55)), (by first
| exact congrArg (Value.int .i64) (at_1 h55 hn h73)
| exact congrArg (Value.int .i64) (at_2 hn h73 (hf1 h73).2 hrl (by omega))
| exact congrArg (Value.int .i64) (at_3 h55)), ?_⟩
                first
                | (have hgf := hf0 h73
                   refine ⟨rfl, rfl, (by rw [hn]; exact hr'), ?_, hR.nw (by (repeat (first | exact Ch.refl _ | assumption | (refine Ch.fresh ?_ (by assumption) (by intro i hi he; first | exact he | (exfalso; have he2 : i = _ := he; omega)))))), by (repeat (first | exact Ch.refl _ | assumption | (refine Ch.fresh ?_ (by assumption) (by intro i hi he; first | exact he | (exfalso; have he2 : i = _ := he; omega)))))⟩
                   rw [← hgf]
                   (exact Bk.to (by assumption) (by (repeat (first | exact Sm.refl _ _ | (refine Sm.stepT (by assumption) (by intro hlt hsm; first | exact not_no | (intro he; have he2 : _ = _ := he; omega)) ?_))))))
                | (have hgf := (hf1 h73).1
                   refine ⟨rfl, rfl, (by rw [hn]; exact hr'), ?_, hR.nw (by (repeat (first | exact Ch.refl _ | assumption | (refine Ch.fresh ?_ (by assumption) (by intro i hi he; first | exact he | (exfalso; have he2 : i = _ := he; omega)))))), by (repeat (first | exact Ch.refl _ | assumption | (refine Ch.fresh ?_ (by assumption) (by intro i hi he; first | exact he | (exfalso; have he2 : i = _ := he; omega)))))⟩
                   rw [hgf]
                   show Bk _ _ #[.int .i64 z[i].1, .int .i64 z[i].2, .int .u64 0, .int .i64 0, .bool false, .string { data := #[] }] _
                   (exact Bk.to (by assumption) (by (repeat (first | exact Sm.refl _ _ | (refine Sm.stepT (by assumption) (by intro hlt hsm; first | exact not_no | (intro he; have he2 : _ = _ := he; omega)) ?_))))))
                | (refine ⟨rfl, rfl, (by rw [nxt_bad h55]; exact hrest), ?_, hR.nw (by (repeat (first | exact Ch.refl _ | assumption | (refine Ch.fresh ?_ (by assumption) (by intro i hi he; first | exact he | (exfalso; have he2 : i = _ := he; omega)))))), by (repeat (first | exact Ch.refl _ | assumption | (refine Ch.fresh ?_ (by assumption) (by intro i hi he; first | exact he | (exfalso; have he2 : i = _ := he; omega)))))⟩
                   rw [gotF_bad h55]
                   show Bk _ _ #[.int .i64 z[i].1, .int .i64 z[i].2, .int .u64 0, .int .i64 0, .bool false, .string { data := #[] }] _
                   (exact Bk.to (by assumption) (by (repeat (first | exact Sm.refl _ _ | (refine Sm.stepT (by assumption) (by intro hlt hsm; first | exact not_no | (intro he; have he2 : _ = _ := he; omega)) ?_))))))
            · refine L_new (.plain rfl) rfl rfl (r_alloca rfl) (fun w15 b11 hb11 eb15 hs15 c15 => ?_)
              refine L_nil ?_
              refine heldK (by exact Sl.nw (by (repeat (first | exact Ch.refl _ | assumption | (refine Ch.fresh ?_ (by assumption) (by intro i hi he; first | exact he | (exfalso; have he2 : i = _ := he; omega)))))) hs0) (fun hS => ?_)
              refine D_ev 11 (by kernel_rfl) rfl ?_
              refine L_call (.plain rfl) rfl rfl (r_call Tryd.func34 rfl rfl rfl (by rfl)) (rget_to z[i].1 z[i].2 rest _ hmi (by omega) hg) ?_
              rintro v68 w16 ⟨rfl, c16⟩
              have hz16 := c16.size
              refine L_nil ?_
              refine heldK (by exact Sl.nw (by (repeat (first | exact Ch.refl _ | assumption | (refine Ch.fresh ?_ (by assumption) (by intro i hi he; first | exact he | (exfalso; have he2 : i = _ := he; omega)))))) hs0) (fun hS => ?_)
              refine D_take 12 rfl (by kernel_rfl) (by kernel_rfl) (by kernel_rfl) (by kernel_rfl) (.plain rfl) rfl rfl (by assumption) (fun W hW => r_move (by conv => lhs; whnf)) ?_
              refine D_take 13 rfl (by kernel_rfl) (by kernel_rfl) (by kernel_rfl) (by kernel_rfl) (.plain rfl) rfl rfl (by assumption) (fun W hW => r_ext3_0 rfl) ?_
              refine D_take 14 rfl (by kernel_rfl) (by kernel_rfl) (by kernel_rfl) (by kernel_rfl) (.plain rfl) rfl rfl (by assumption) (fun W hW => r_ext3_1 rfl) ?_
              refine D_take 15 rfl (by kernel_rfl) (by kernel_rfl) (by kernel_rfl) (by kernel_rfl) (.plain rfl) rfl rfl (by assumption) (fun W hW => r_ext3_2 rfl) ?_
              refine D_ev 17 (by kernel_rfl) rfl ?_
              refine L_storerow (.plain rfl) rfl rfl (by (exact Bk.to (by assumption) (by (repeat (first | exact Sm.refl _ _ | (refine Sm.stepT (by assumption) (by intro hlt hsm; first | exact not_no | (intro he; have he2 : _ = _ := he; omega)) ?_)))))) (by first | rfl | (simp; done) | assumption) (by first | rfl | assumption) (by first | rfl | (simp [Value.oneCell']; done) | assumption) (fun w17 hb17 hs17 c17 => ?_)
              refine L_nil ?_
              refine heldK (by exact Sl.nw (by (repeat (first | exact Ch.refl _ | assumption | (refine Ch.fresh ?_ (by assumption) (by intro i hi he; first | exact he | (exfalso; have he2 : i = _ := he; omega)))))) hs0) (fun hS => ?_)
              refine D_take 18 rfl (by kernel_rfl) (by kernel_rfl) (by kernel_rfl) (by kernel_rfl) (.plain rfl) rfl rfl (by assumption) (fun W hW => r_assign (v := .string _) rfl) ?_
              refine D_take 19 rfl (by kernel_rfl) (by kernel_rfl) (by kernel_rfl) (by kernel_rfl) (.plain rfl) rfl rfl (by assumption) (fun W hW => r_assign (v := .int _ _) rfl) ?_
              refine D_done (by kernel_rfl) ?_
              refine W_seq ?_
              refine W_seq ?_
              refine W_region ?_
              refine L_run (.plain rfl) rfl rfl (r_move (v := .int _ _) rfl) ?_
              refine L_run (.plain rfl) rfl rfl (r_eql rfl rfl) ?_
              refine L_nil ?_
              refine W_if rfl (fun h73 => ?_) (fun h73 => ?_)
              · refine W_region ?_
                refine L_run (.plain rfl) rfl rfl (r_loadrow Tryd.underlying35 rfl rfl (by (exact Bk.to (by assumption) (by (repeat (first | exact Sm.refl _ _ | (refine Sm.stepT (by assumption) (by intro hlt hsm; first | exact not_no | (intro he; have he2 : _ = _ := he; omega)) ?_)))))) (by first | rfl | assumption)) ?_
                refine L_storerow (.plain rfl) rfl rfl (by (exact Bk.to (by assumption) (by (repeat (first | exact Sm.refl _ _ | (refine Sm.stepT (by assumption) (by intro hlt hsm; first | exact not_no | (intro he; have he2 : _ = _ := he; omega)) ?_)))))) (by first | rfl | (simp; done) | assumption) (by first | rfl | assumption) (by first | rfl | (simp [Value.oneCell']; done) | assumption) (fun w18 hb18 hs18 c18 => ?_)
                refine L_nil ?_
                refine W_region ?_
                refine L_run (.plain rfl) rfl rfl (r_move (v := .string _) rfl) ?_
                refine L_run (.plain rfl) rfl rfl (r_move (v := .int _ _) rfl) ?_
                refine L_run (.plain rfl) rfl rfl (r_assign (v := .string _) rfl) ?_
                refine L_run (.plain rfl) rfl rfl (r_assign (v := .int _ _) rfl) ?_
                refine L_nil ?_
                refine ⟨⟨rfl, rfl, rfl, rfl, rfl, trivial⟩, gotF (a, e) z[i].1 z[i].2 ((bs s).drop a), _, (nxt (a, e) (rdF z[i].1 z[i].2 ((bs s).drop a)).1 (rdF z[i].1 z[i].2 ((bs s).drop a)).2.2).1, (nxt (a, e) (rdF z[i].1 z[i].2 ((bs s).drop a)).1 (rdF z[i].1 z[i].2 ((bs s).drop a)).2.2).2, rfl, (by first
| exact congrArg (Value.int .i64) (er_1 hn)
| exact congrArg (Value.int .i64) (er_3 h55)), (by first
| exact congrArg (Value.int .i64) (at_1 h55 hn h73)
| exact congrArg (Value.int .i64) (at_2 hn h73 (hf1 h73).2 hrl (by omega))
| exact congrArg (Value.int .i64) (at_3 h55)), ?_⟩
                first
                | (have hgf := hf0 h73
                   refine ⟨rfl, rfl, (by rw [hn]; exact hr'), ?_, hR.nw (by (repeat (first | exact Ch.refl _ | assumption | (refine Ch.fresh ?_ (by assumption) (by intro i hi he; first | exact he | (exfalso; have he2 : i = _ := he; omega)))))), by (repeat (first | exact Ch.refl _ | assumption | (refine Ch.fresh ?_ (by assumption) (by intro i hi he; first | exact he | (exfalso; have he2 : i = _ := he; omega)))))⟩
                   rw [← hgf]
                   (exact Bk.to (by assumption) (by (repeat (first | exact Sm.refl _ _ | (refine Sm.stepT (by assumption) (by intro hlt hsm; first | exact not_no | (intro he; have he2 : _ = _ := he; omega)) ?_))))))
                | (have hgf := (hf1 h73).1
                   refine ⟨rfl, rfl, (by rw [hn]; exact hr'), ?_, hR.nw (by (repeat (first | exact Ch.refl _ | assumption | (refine Ch.fresh ?_ (by assumption) (by intro i hi he; first | exact he | (exfalso; have he2 : i = _ := he; omega)))))), by (repeat (first | exact Ch.refl _ | assumption | (refine Ch.fresh ?_ (by assumption) (by intro i hi he; first | exact he | (exfalso; have he2 : i = _ := he; omega)))))⟩
                   rw [hgf]
                   show Bk _ _ #[.int .i64 z[i].1, .int .i64 z[i].2, .int .u64 0, .int .i64 0, .bool false, .string { data := #[] }] _
                   (exact Bk.to (by assumption) (by (repeat (first | exact Sm.refl _ _ | (refine Sm.stepT (by assumption) (by intro hlt hsm; first | exact not_no | (intro he; have he2 : _ = _ := he; omega)) ?_))))))
                | (refine ⟨rfl, rfl, (by rw [nxt_bad h55]; exact hrest), ?_, hR.nw (by (repeat (first | exact Ch.refl _ | assumption | (refine Ch.fresh ?_ (by assumption) (by intro i hi he; first | exact he | (exfalso; have he2 : i = _ := he; omega)))))), by (repeat (first | exact Ch.refl _ | assumption | (refine Ch.fresh ?_ (by assumption) (by intro i hi he; first | exact he | (exfalso; have he2 : i = _ := he; omega)))))⟩
                   rw [gotF_bad h55]
                   show Bk _ _ #[.int .i64 z[i].1, .int .i64 z[i].2, .int .u64 0, .int .i64 0, .bool false, .string { data := #[] }] _
                   (exact Bk.to (by assumption) (by (repeat (first | exact Sm.refl _ _ | (refine Sm.stepT (by assumption) (by intro hlt hsm; first | exact not_no | (intro he; have he2 : _ = _ := he; omega)) ?_))))))
              · refine W_region ?_
                refine L_run (.plain rfl) rfl rfl (r_move (v := .string _) rfl) ?_
                refine L_run (.plain rfl) rfl rfl (r_lens Tryd.underlying9 rfl) ?_
                refine L_run (.plain rfl) rfl rfl (r_move (v := .string _) rfl) ?_
                refine L_run (.plain rfl) rfl rfl (r_lens Tryd.underlying9 rfl) ?_
                refine L_run (.plain rfl) rfl rfl (r_sub rfl rfl (by first | exact wr_i64 (by omega) | rfl)) ?_
                refine L_run (.plain rfl) rfl rfl (r_assign (v := .int _ _) rfl) ?_
                refine L_nil ?_
                refine W_region ?_
                refine L_run (.plain rfl) rfl rfl (r_move (v := .string _) rfl) ?_
                refine L_run (.plain rfl) rfl rfl (r_move (v := .int _ _) rfl) ?_
                refine L_run (.plain rfl) rfl rfl (r_assign (v := .string _) rfl) ?_
                refine L_run (.plain rfl) rfl rfl (r_assign (v := .int _ _) rfl) ?_
                refine L_nil ?_
                refine ⟨⟨rfl, rfl, rfl, rfl, rfl, trivial⟩, gotF (a, e) z[i].1 z[i].2 ((bs s).drop a), _, (nxt (a, e) (rdF z[i].1 z[i].2 ((bs s).drop a)).1 (rdF z[i].1 z[i].2 ((bs s).drop a)).2.2).1, (nxt (a, e) (rdF z[i].1 z[i].2 ((bs s).drop a)).1 (rdF z[i].1 z[i].2 ((bs s).drop a)).2.2).2, rfl, (by first
| exact congrArg (Value.int .i64) (er_1 hn)
| exact congrArg (Value.int .i64) (er_3 h55)), (by first
| exact congrArg (Value.int .i64) (at_1 h55 hn h73)
| exact congrArg (Value.int .i64) (at_2 hn h73 (hf1 h73).2 hrl (by omega))
| exact congrArg (Value.int .i64) (at_3 h55)), ?_⟩
                first
                | (have hgf := hf0 h73
                   refine ⟨rfl, rfl, (by rw [hn]; exact hr'), ?_, hR.nw (by (repeat (first | exact Ch.refl _ | assumption | (refine Ch.fresh ?_ (by assumption) (by intro i hi he; first | exact he | (exfalso; have he2 : i = _ := he; omega)))))), by (repeat (first | exact Ch.refl _ | assumption | (refine Ch.fresh ?_ (by assumption) (by intro i hi he; first | exact he | (exfalso; have he2 : i = _ := he; omega)))))⟩
                   rw [← hgf]
                   (exact Bk.to (by assumption) (by (repeat (first | exact Sm.refl _ _ | (refine Sm.stepT (by assumption) (by intro hlt hsm; first | exact not_no | (intro he; have he2 : _ = _ := he; omega)) ?_))))))
                | (have hgf := (hf1 h73).1
                   refine ⟨rfl, rfl, (by rw [hn]; exact hr'), ?_, hR.nw (by (repeat (first | exact Ch.refl _ | assumption | (refine Ch.fresh ?_ (by assumption) (by intro i hi he; first | exact he | (exfalso; have he2 : i = _ := he; omega)))))), by (repeat (first | exact Ch.refl _ | assumption | (refine Ch.fresh ?_ (by assumption) (by intro i hi he; first | exact he | (exfalso; have he2 : i = _ := he; omega)))))⟩
                   rw [hgf]
                   show Bk _ _ #[.int .i64 z[i].1, .int .i64 z[i].2, .int .u64 0, .int .i64 0, .bool false, .string { data := #[] }] _
                   (exact Bk.to (by assumption) (by (repeat (first | exact Sm.refl _ _ | (refine Sm.stepT (by assumption) (by intro hlt hsm; first | exact not_no | (intro he; have he2 : _ = _ := he; omega)) ?_))))))
                | (refine ⟨rfl, rfl, (by rw [nxt_bad h55]; exact hrest), ?_, hR.nw (by (repeat (first | exact Ch.refl _ | assumption | (refine Ch.fresh ?_ (by assumption) (by intro i hi he; first | exact he | (exfalso; have he2 : i = _ := he; omega)))))), by (repeat (first | exact Ch.refl _ | assumption | (refine Ch.fresh ?_ (by assumption) (by intro i hi he; first | exact he | (exfalso; have he2 : i = _ := he; omega)))))⟩
                   rw [gotF_bad h55]
                   show Bk _ _ #[.int .i64 z[i].1, .int .i64 z[i].2, .int .u64 0, .int .i64 0, .bool false, .string { data := #[] }] _
                   (exact Bk.to (by assumption) (by (repeat (first | exact Sm.refl _ _ | (refine Sm.stepT (by assumption) (by intro hlt hsm; first | exact not_no | (intro he; have he2 : _ = _ := he; omega)) ?_))))))
          · refine W_skip ?_
            refine ⟨⟨rfl, rfl, rfl, rfl, rfl, trivial⟩, gotF (a, e) z[i].1 z[i].2 ((bs s).drop a), _, (nxt (a, e) (rdF z[i].1 z[i].2 ((bs s).drop a)).1 (rdF z[i].1 z[i].2 ((bs s).drop a)).2.2).1, (nxt (a, e) (rdF z[i].1 z[i].2 ((bs s).drop a)).1 (rdF z[i].1 z[i].2 ((bs s).drop a)).2.2).2, rfl, (by first
| exact congrArg (Value.int .i64) (er_1 hn)
| exact congrArg (Value.int .i64) (er_3 h55)), (by first
| exact congrArg (Value.int .i64) (at_1 h55 hn h73)
| exact congrArg (Value.int .i64) (at_2 hn h73 (hf1 h73).2 hrl (by omega))
| exact congrArg (Value.int .i64) (at_3 h55)), ?_⟩
            first
            | (have hgf := hf0 h73
               refine ⟨rfl, rfl, (by rw [hn]; exact hr'), ?_, hR.nw (by (repeat (first | exact Ch.refl _ | assumption | (refine Ch.fresh ?_ (by assumption) (by intro i hi he; first | exact he | (exfalso; have he2 : i = _ := he; omega)))))), by (repeat (first | exact Ch.refl _ | assumption | (refine Ch.fresh ?_ (by assumption) (by intro i hi he; first | exact he | (exfalso; have he2 : i = _ := he; omega)))))⟩
               rw [← hgf]
               (exact Bk.to (by assumption) (by (repeat (first | exact Sm.refl _ _ | (refine Sm.stepT (by assumption) (by intro hlt hsm; first | exact not_no | (intro he; have he2 : _ = _ := he; omega)) ?_))))))
            | (have hgf := (hf1 h73).1
               refine ⟨rfl, rfl, (by rw [hn]; exact hr'), ?_, hR.nw (by (repeat (first | exact Ch.refl _ | assumption | (refine Ch.fresh ?_ (by assumption) (by intro i hi he; first | exact he | (exfalso; have he2 : i = _ := he; omega)))))), by (repeat (first | exact Ch.refl _ | assumption | (refine Ch.fresh ?_ (by assumption) (by intro i hi he; first | exact he | (exfalso; have he2 : i = _ := he; omega)))))⟩
               rw [hgf]
               show Bk _ _ #[.int .i64 z[i].1, .int .i64 z[i].2, .int .u64 0, .int .i64 0, .bool false, .string { data := #[] }] _
               (exact Bk.to (by assumption) (by (repeat (first | exact Sm.refl _ _ | (refine Sm.stepT (by assumption) (by intro hlt hsm; first | exact not_no | (intro he; have he2 : _ = _ := he; omega)) ?_))))))
            | (refine ⟨rfl, rfl, (by rw [nxt_bad h55]; exact hrest), ?_, hR.nw (by (repeat (first | exact Ch.refl _ | assumption | (refine Ch.fresh ?_ (by assumption) (by intro i hi he; first | exact he | (exfalso; have he2 : i = _ := he; omega)))))), by (repeat (first | exact Ch.refl _ | assumption | (refine Ch.fresh ?_ (by assumption) (by intro i hi he; first | exact he | (exfalso; have he2 : i = _ := he; omega)))))⟩
               rw [gotF_bad h55]
               show Bk _ _ #[.int .i64 z[i].1, .int .i64 z[i].2, .int .u64 0, .int .i64 0, .bool false, .string { data := #[] }] _
               (exact Bk.to (by assumption) (by (repeat (first | exact Sm.refl _ _ | (refine Sm.stepT (by assumption) (by intro hlt hsm; first | exact not_no | (intro he; have he2 : _ = _ := he; omega)) ?_))))))
        rintro gct55 w19 ⟨want, rest1, a1, e1, hf6, hf7, hf8, hCt55⟩
        refine W_as 6 hf6 rfl ?_
        refine W_as 7 hf7 rfl ?_
        refine W_as 8 hf8 rfl ?_
        clear hf6 hf7 hf8
        obtain ⟨hwant, hnx, hrest1, hbw, hRc, hnw⟩ := hCt55
        have hz := hnw.size
        have hrl1 := congrArg List.length hrest1
        rw [bs_length, List.length_drop] at hrl1
        refine W_seq ?_
        refine W_seq ?_
        refine W_draw (fun W => Sl W v1 2 z.length (cellsP z) ∧ Bk W b10 #[.int .i64 want.kind, .int .i64 want.most, .int .u64 want.n, .int .i64 want.i, .bool want.yes, .string want.s] 35) 21 (m := 21) (by kernel_rfl) rfl (fun w20 c20 hs20 => ?_)
        refine held (by exact ⟨Sl.nw (by (repeat (first | exact Ch.refl _ | assumption | (refine Ch.fresh ?_ (by assumption) (by intro i hi he; first | exact he | (exfalso; have he2 : i = _ := he; omega)))))) hs0, by (exact Bk.to (by assumption) (by (repeat (first | exact Sm.refl _ _ | (refine Sm.stepT (by assumption) (by intro hlt hsm; first | exact not_no | (intro he; have he2 : _ = _ := he; omega)) ?_)))))⟩) (fun hS => ?_)
        refine D_take 0 rfl (by kernel_rfl) (by kernel_rfl) (by kernel_rfl) (by kernel_rfl) (.plain rfl) rfl rfl (by assumption) (fun W hW => r_move (v := .pointer _) rfl) ?_
        refine D_take 1 rfl (by kernel_rfl) (by kernel_rfl) (by kernel_rfl) (by kernel_rfl) (.plain rfl) rfl rfl (by assumption) (fun W hW => r_move (by conv => lhs; whnf)) ?_
        refine D_take 2 rfl (by kernel_rfl) (by kernel_rfl) (by kernel_rfl) (by kernel_rfl) (.plain rfl) rfl rfl (by assumption) (fun W hW => r_move (v := .int _ _) rfl) ?_
        refine D_take 3 rfl (by kernel_rfl) (by kernel_rfl) (by kernel_rfl) (by kernel_rfl) (.plain rfl) rfl rfl (by assumption) (fun W hW => r_idxSl Tryd.underlying57 (show _ = some 2 from rfl) (by conv => lhs; whnf) rfl (by first | exact hW.1 | exact hW.2) (by omega) (by omega) (by conv => lhs; (try simp only [Nat.mul_one, Nat.zero_add, Int.toNat_natCast, Int.toNat_zero, Int.reduceToNat, Nat.reduceMul, Nat.reduceAdd]))) ?_
        refine D_take 4 rfl (by kernel_rfl) (by kernel_rfl) (by kernel_rfl) (by kernel_rfl) (.plain rfl) rfl rfl (by assumption) (fun W hW => r_idxarrSl Tryd.underlying58 (show _ = some 1 from rfl) rfl rfl (by omega) (by omega) (by conv => lhs; (try simp only [Nat.mul_one, Nat.zero_add, Int.toNat_natCast, Int.toNat_zero, Int.reduceToNat, Nat.reduceMul, Nat.reduceAdd]))) ?_
        refine D_take 5 rfl (by kernel_rfl) (by kernel_rfl) (by kernel_rfl) (by kernel_rfl) (.plain rfl) rfl rfl (by assumption) (fun W hW => r_loadSl rfl rfl (by first | exact hW.1 | exact hW.2) (by first | assumption | exact cellsP_0 z i (by omega) | exact cellsP_1 z i (by omega) | (conv => lhs; simp only [List.getElem?_toArray, List.getElem?_cons_succ, List.getElem?_cons_zero]))) ?_
        refine D_take 6 rfl (by kernel_rfl) (by kernel_rfl) (by kernel_rfl) (by kernel_rfl) (.plain rfl) rfl rfl (by assumption) (fun W hW => r_move (by conv => lhs; whnf)) ?_
        refine D_take 7 rfl (by kernel_rfl) (by kernel_rfl) (by kernel_rfl) (by kernel_rfl) (.plain rfl) rfl rfl (by assumption) (fun W hW => r_move (v := .int _ _) rfl) ?_
        refine D_take 8 rfl (by kernel_rfl) (by kernel_rfl) (by kernel_rfl) (by kernel_rfl) (.plain rfl) rfl rfl (by assumption) (fun W hW => r_idxSl Tryd.underlying57 (show _ = some 2 from rfl) (by conv => lhs; whnf) rfl (by first | exact hW.1 | exact hW.2) (by omega) (by omega) (by conv => lhs; (try simp only [Nat.mul_one, Nat.zero_add, Int.toNat_natCast, Int.toNat_zero, Int.reduceToNat, Nat.reduceMul, Nat.reduceAdd]))) ?_
        refine D_take 9 rfl (by kernel_rfl) (by kernel_rfl) (by kernel_rfl) (by kernel_rfl) (.plain rfl) rfl rfl (by assumption) (fun W hW => r_idxarrSl Tryd.underlying58 (show _ = some 1 from rfl) rfl rfl (by omega) (by omega) (by conv => lhs; (try simp only [Nat.mul_one, Nat.zero_add, Int.toNat_natCast, Int.toNat_zero, Int.reduceToNat, Nat.reduceMul, Nat.reduceAdd]))) ?_
        refine D_take 10 rfl (by kernel_rfl) (by kernel_rfl) (by kernel_rfl) (by kernel_rfl) (.plain rfl) rfl rfl (by assumption) (fun W hW => r_loadSl rfl rfl (by first | exact hW.1 | exact hW.2) (by first | assumption | exact cellsP_0 z i (by omega) | exact cellsP_1 z i (by omega) | (conv => lhs; simp only [List.getElem?_toArray, List.getElem?_cons_succ, List.getElem?_cons_zero]))) ?_
        refine D_take 12 rfl (by kernel_rfl) (by kernel_rfl) (by kernel_rfl) (by kernel_rfl) (.plain rfl) rfl rfl (by assumption) (fun W hW => r_loadrow Tryd.underlying35 rfl rfl (by first | exact hW.1 | exact hW.2) (by first | rfl | assumption)) ?_
        refine D_ev 11 (by kernel_rfl) rfl ?_
        refine L_call (.plain rfl) rfl rfl (r_call Tryd.func35 rfl rfl rfl (by rfl)) (lget_to (hRc.nw (by (repeat (first | exact Ch.refl _ | assumption | (refine Ch.fresh ?_ (by assumption) (by intro i hi he; first | exact he | (exfalso; have he2 : i = _ := he; omega))))))) (hT.nw (by (repeat (first | exact Ch.refl _ | assumption | (refine Ch.fresh ?_ (by assumption) (by intro i hi he; first | exact he | (exfalso; have he2 : i = _ := he; omega)))))) (by omega)) hmi.2 (by omega) hwant hnx) ?_
        rintro v93 w21 ⟨rfl, hR2, c21⟩
        have hz21 := c21.size
        refine L_nil ?_
        refine heldK (by exact ⟨Sl.nw (by (repeat (first | exact Ch.refl _ | assumption | (refine Ch.fresh ?_ (by assumption) (by intro i hi he; first | exact he | (exfalso; have he2 : i = _ := he; omega)))))) hs0, by (exact Bk.to (by assumption) (by (repeat (first | exact Sm.refl _ _ | (refine Sm.stepT (by assumption) (by intro hlt hsm; first | exact not_no | (intro he; have he2 : _ = _ := he; omega)) ?_)))))⟩) (fun hS => ?_)
        refine D_take 13 rfl (by kernel_rfl) (by kernel_rfl) (by kernel_rfl) (by kernel_rfl) (.plain rfl) rfl rfl (by assumption) (fun W hW => r_neqR (xs := #[.int _ _, .int _ _, .int _ _, .int _ _, .bool _, .string _]) (ys := #[.int _ _, .int _ _, .int _ _, .int _ _, .bool _, .string _]) rfl rfl (by kernel_rfl) (eqFld _ _ _ _ _ _ _ _ _ _ _ _ _)) ?_
        refine D_as (v := .bool _) (v' := .bool false) 95 rfl (dec_f (by simp)).symm ?_
        refine D_take 14 rfl (by kernel_rfl) (by kernel_rfl) (by kernel_rfl) (by kernel_rfl) (.plain rfl) rfl rfl (by assumption) (fun W hW => r_move (v := .bool _) rfl) ?_
        refine D_take 15 rfl (by kernel_rfl) (by kernel_rfl) (by kernel_rfl) (by kernel_rfl) (.yes 14 false rfl rfl) rfl rfl (by assumption) (fun W hW => r_move (v := .pointer _) rfl) ?_
        refine D_take 17 rfl (by kernel_rfl) (by kernel_rfl) (by kernel_rfl) (by kernel_rfl) (.yes 14 false rfl rfl) rfl rfl (by assumption) (fun W hW => r_move (v := .string _) rfl) ?_
        refine D_take 18 rfl (by kernel_rfl) (by kernel_rfl) (by kernel_rfl) (by kernel_rfl) (.yes 14 false rfl rfl) rfl rfl (by assumption) (fun W hW => r_lens Tryd.underlying9 rfl) ?_
        refine D_ev 16 (by kernel_rfl) rfl ?_
        refine L_call (.yes 14 false rfl rfl) rfl rfl (r_call Tryd.func33 rfl rfl rfl (by rfl)) (left_walk _ b3 _ _ _ _ _ (hR2.nw (by (repeat (first | exact Ch.refl _ | assumption | (refine Ch.fresh ?_ (by assumption) (by intro i hi he; first | exact he | (exfalso; have he2 : i = _ := he; omega)))))))) ?_
        rintro v98 w22 ⟨rfl, c22⟩
        have hz22 := c22.size
        refine L_nil ?_
        refine heldK (by exact ⟨Sl.nw (by (repeat (first | exact Ch.refl _ | assumption | (refine Ch.fresh ?_ (by assumption) (by intro i hi he; first | exact he | (exfalso; have he2 : i = _ := he; omega)))))) hs0, by (exact Bk.to (by assumption) (by (repeat (first | exact Sm.refl _ _ | (refine Sm.stepT (by assumption) (by intro hlt hsm; first | exact not_no | (intro he; have he2 : _ = _ := he; omega)) ?_)))))⟩) (fun hS => ?_)
        refine D_take 19 rfl (by kernel_rfl) (by kernel_rfl) (by kernel_rfl) (by kernel_rfl) (.yes 14 false rfl rfl) rfl rfl (by assumption) (fun W hW => r_neq rfl rfl) ?_
        refine D_as (v := .bool _) (v' := .bool false) 101 rfl (dec_f (by exact fun h => h (congrArg Int.ofNat hrl1.symm))).symm ?_
        refine D_take 20 rfl (by kernel_rfl) (by kernel_rfl) (by kernel_rfl) (by kernel_rfl) (.plain rfl) rfl rfl (by assumption) (fun W hW => r_pick_f (v := .bool _) rfl rfl) ?_
        refine D_done (by kernel_rfl) ?_
        refine W_false rfl ?_
        refine W_skip ?_
        refine W_seq ?_
        refine W_region ?_
        refine L_run (.plain rfl) rfl rfl (r_move (v := .pointer _) rfl) ?_
        refine L_call (.plain rfl) rfl rfl (r_call Tryd.func36 rfl rfl rfl (by rfl)) (err_walk _ b3 _ _ _ _ _ (hR2.nw (by (repeat (first | exact Ch.refl _ | assumption | (refine Ch.fresh ?_ (by assumption) (by intro i hi he; first | exact he | (exfalso; have he2 : i = _ := he; omega)))))))) ?_
        rintro v105 w23 ⟨rfl, c23⟩
        have hz23 := c23.size
        refine L_run (.plain rfl) rfl rfl (r_move (by conv => lhs; whnf)) ?_
        refine L_run (.plain rfl) rfl rfl (r_ext2_0 rfl) ?_
        refine L_run (.plain rfl) rfl rfl (r_ext2_1 rfl) ?_
        refine L_run (.plain rfl) rfl rfl (r_assign (v := .int _ _) rfl) ?_
        refine L_run (.plain rfl) rfl rfl (r_assign (v := .int _ _) rfl) ?_
        refine L_nil ?_
        refine W_seq ?_
        refine W_region ?_
        refine L_run (.plain rfl) rfl rfl (r_move (v := .int _ _) rfl) ?_
        refine L_run (.plain rfl) rfl rfl (r_move (v := .int _ _) rfl) ?_
        refine L_run (.plain rfl) rfl rfl (r_neq rfl rfl) ?_
        refine L_as (v := .bool _) (v' := .bool false) 110 rfl (dec_f (by exact fun h => h rfl)).symm ?_
        refine L_run (.plain rfl) rfl rfl (r_move (v := .bool _) rfl) ?_
        refine L_run (.yes 3 false rfl rfl) rfl rfl (r_move (v := .int _ _) rfl) ?_
        refine L_run (.yes 3 false rfl rfl) rfl rfl (r_move (v := .int _ _) rfl) ?_
        refine L_run (.yes 3 false rfl rfl) rfl rfl (r_neq rfl rfl) ?_
        refine L_as (v := .bool _) (v' := .bool false) 114 rfl (dec_f (by exact fun h => h rfl)).symm ?_
        refine L_run (.plain rfl) rfl rfl (r_pick_f (v := .bool _) rfl rfl) ?_
        refine L_nil ?_
        refine W_false rfl ?_
        refine W_skip ?_
        refine W_region ?_
        refine L_run (.plain rfl) rfl rfl (r_move (v := .int _ _) rfl) ?_
        refine L_run (.plain rfl) rfl rfl (r_add rfl rfl (by first | exact wr_i64 (by omega) | rfl)) ?_
        refine L_run (.plain rfl) rfl rfl (r_assign (v := .int _ _) rfl) ?_
        refine L_nil ?_
        refine ⟨⟨rfl, rfl, rfl, trivial⟩, _, ?_, i + 1, a1, e1, rest1, rfl, rfl, rfl, rfl, ?_, rfl⟩
        · omega
        exact ⟨by omega, hR2.nw (by (repeat (first | exact Ch.refl _ | assumption | (refine Ch.fresh ?_ (by assumption) (by intro i hi he; first | exact he | (exfalso; have he2 : i = _ := he; omega)))))), hrest1, by (repeat (first | exact Ch.refl _ | assumption | (refine Ch.fresh ?_ (by assumption) (by intro i hi he; first | exact he | (exfalso; have he2 : i = _ := he; omega)))))⟩
      · have hal := hR.ha
        refine W_exit ?_
        repeat (first | refine blk_hit ?_ | refine blk_miss rfl ?_)
        refine W_seq ?_
        refine W_region ?_
        refine L_run (.plain rfl) rfl rfl (r_move (v := .pointer _) rfl) ?_
        refine L_call (.plain rfl) rfl rfl (r_call Tryd.func32 rfl rfl rfl (by rfl)) (rdend_walk _ b3 _ _ _ _ _ (hR.nw (by (repeat (first | exact Ch.refl _ | assumption | (refine Ch.fresh ?_ (by assumption) (by intro i hi he; first | exact he | (exfalso; have he2 : i = _ := he; omega)))))))) ?_
        rintro v118 w24 ⟨rfl, c24⟩
        have hz24 := c24.size
        refine L_run (.plain rfl) rfl rfl (r_move (by conv => lhs; whnf)) ?_
        refine L_run (.plain rfl) rfl rfl (r_ext2_0 rfl) ?_
        refine L_run (.plain rfl) rfl rfl (r_ext2_1 rfl) ?_
        refine L_run (.plain rfl) rfl rfl (r_assign (v := .int _ _) rfl) ?_
        refine L_run (.plain rfl) rfl rfl (r_assign (v := .int _ _) rfl) ?_
        refine L_nil ?_
        refine W_seq ?_
        refine W_seq ?_
        refine W_region ?_
        refine L_run (.plain rfl) rfl rfl (r_move (v := .int _ _) rfl) ?_
        refine L_run (.plain rfl) rfl rfl (r_eql rfl rfl) ?_
        refine L_run (.plain rfl) rfl rfl (r_move (v := .bool _) rfl) ?_
        refine L_case (d := 123) rfl (fun h123 => ?_) (fun h123 => ?_)
        · refine L_run (.yes 2 true rfl rfl) rfl rfl (r_move (v := .string _) rfl) ?_
          refine L_run (.yes 2 true rfl rfl) rfl rfl (r_neqs rfl rfl) ?_
          refine L_run (.plain rfl) rfl rfl (r_pick_t (v := .bool _) rfl rfl) ?_
          refine L_nil ?_
          refine W_if rfl (fun h126 => ?_) (fun h126 => ?_)
          · refine W_seq ?_
            refine W_region ?_
            refine L_run (.plain rfl) rfl rfl (r_move (v := .int _ _) rfl) ?_
            refine L_run (.plain rfl) rfl rfl (r_eql rfl rfl) ?_
            refine L_run (.plain rfl) rfl rfl (r_move (v := .bool _) rfl) ?_
            refine L_case (d := 129) rfl (fun h129 => ?_) (fun h129 => ?_)
            · refine L_run (.yes 2 true rfl rfl) rfl rfl (r_move (v := .int _ _) rfl) ?_
              refine L_run (.yes 2 true rfl rfl) rfl rfl (r_move (v := .string _) rfl) ?_
              refine L_run (.yes 2 true rfl rfl) rfl rfl (r_lens Tryd.underlying9 rfl) ?_
              refine L_run (.yes 2 true rfl rfl) rfl rfl (r_move (v := .string _) rfl) ?_
              refine L_run (.yes 2 true rfl rfl) rfl rfl (r_lens Tryd.underlying9 rfl) ?_
              refine L_run (.yes 2 true rfl rfl) rfl rfl (r_sub rfl rfl (by first | exact wr_i64 (by omega) | rfl)) ?_
              refine L_run (.yes 2 true rfl rfl) rfl rfl (r_eql rfl rfl) ?_
              refine L_run (.plain rfl) rfl rfl (r_pick_t (v := .bool _) rfl rfl) ?_
              refine L_run (.plain rfl) rfl rfl (r_assign (v := .bool _) rfl) ?_
              refine L_nil ?_
              refine W_ret ?_
              refine ret1 (v := .bool _) rfl rfl ?_
              refine ⟨?_, by (repeat (first | exact Ch.refl _ | assumption | (refine Ch.fresh ?_ (by assumption) (by intro i hi he; first | exact he | (exfalso; have he2 : i = _ := he; omega)))))⟩
              first
              | (have q := ba_pos h126
                 refine congrArg Value.bool (decide_eq_true ?_)
                 split <;> omega)
              | (exfalso
                 have q := ba_pos h126
                 apply h129
                 split <;> omega)
              | (have q := congrArg List.length (ba_nil h126)
                 rw [bs_length] at q
                 have q2 : rest.size = 0 := q
                 refine congrArg Value.bool (decide_eq_true ?_)
                 (repeat' split) <;> omega)
              | (exfalso
                 have q := congrArg List.length (ba_nil h126)
                 rw [bs_length] at q
                 have q2 : rest.size = 0 := q
                 apply h141
                 split <;> omega)
              | (refine congrArg Value.bool (decide_eq_true ?_)
                 (repeat' split) <;> omega)
              | (exfalso
                 apply h141
                 split <;> omega)
              | exact rfl
            · refine L_pass rfl rfl rfl rfl rfl ?_
              refine L_pass rfl rfl rfl rfl rfl ?_
              refine L_pass rfl rfl rfl rfl rfl ?_
              refine L_pass rfl rfl rfl rfl rfl ?_
              refine L_pass rfl rfl rfl rfl rfl ?_
              refine L_pass rfl rfl rfl rfl rfl ?_
              refine L_pass rfl rfl rfl rfl rfl ?_
              refine L_run (.plain rfl) rfl rfl (r_pick_f (v := .bool _) rfl rfl) ?_
              refine L_run (.plain rfl) rfl rfl (r_assign (v := .bool _) rfl) ?_
              refine L_nil ?_
              refine W_ret ?_
              refine ret1 (v := .bool _) rfl rfl ?_
              refine ⟨?_, by (repeat (first | exact Ch.refl _ | assumption | (refine Ch.fresh ?_ (by assumption) (by intro i hi he; first | exact he | (exfalso; have he2 : i = _ := he; omega)))))⟩
              first
              | (have q := ba_pos h126
                 refine congrArg Value.bool (decide_eq_true ?_)
                 split <;> omega)
              | (exfalso
                 have q := ba_pos h126
                 apply h129
                 split <;> omega)
              | (have q := congrArg List.length (ba_nil h126)
                 rw [bs_length] at q
                 have q2 : rest.size = 0 := q
                 refine congrArg Value.bool (decide_eq_true ?_)
                 (repeat' split) <;> omega)
              | (exfalso
                 have q := congrArg List.length (ba_nil h126)
                 rw [bs_length] at q
                 have q2 : rest.size = 0 := q
                 apply h141
                 split <;> omega)
              | (refine congrArg Value.bool (decide_eq_true ?_)
                 (repeat' split) <;> omega)
              | (exfalso
                 apply h141
                 split <;> omega)
              | exact rfl
          · refine W_skip ?_
            refine W_seq ?_
            refine W_region ?_
            refine L_run (.plain rfl) rfl rfl (r_move (v := .int _ _) rfl) ?_
            refine L_run (.plain rfl) rfl rfl (r_move (v := .int _ _) rfl) ?_
            refine L_run (.plain rfl) rfl rfl (r_eql rfl rfl) ?_
            refine L_run (.plain rfl) rfl rfl (r_move (v := .bool _) rfl) ?_
            refine L_case (d := 141) rfl (fun h141 => ?_) (fun h141 => ?_)
            · refine L_run (.yes 3 true rfl rfl) rfl rfl (r_move (v := .int _ _) rfl) ?_
              refine L_run (.yes 3 true rfl rfl) rfl rfl (r_move (v := .int _ _) rfl) ?_
              refine L_run (.yes 3 true rfl rfl) rfl rfl (r_eql rfl rfl) ?_
              refine L_run (.plain rfl) rfl rfl (r_pick_t (v := .bool _) rfl rfl) ?_
              refine L_run (.plain rfl) rfl rfl (r_assign (v := .bool _) rfl) ?_
              refine L_nil ?_
              refine W_ret ?_
              refine ret1 (v := .bool _) rfl rfl ?_
              refine ⟨?_, by (repeat (first | exact Ch.refl _ | assumption | (refine Ch.fresh ?_ (by assumption) (by intro i hi he; first | exact he | (exfalso; have he2 : i = _ := he; omega)))))⟩
              first
              | (have q := ba_pos h126
                 refine congrArg Value.bool (decide_eq_true ?_)
                 split <;> omega)
              | (exfalso
                 have q := ba_pos h126
                 apply h129
                 split <;> omega)
              | (have q := congrArg List.length (ba_nil h126)
                 rw [bs_length] at q
                 have q2 : rest.size = 0 := q
                 refine congrArg Value.bool (decide_eq_true ?_)
                 (repeat' split) <;> omega)
              | (exfalso
                 have q := congrArg List.length (ba_nil h126)
                 rw [bs_length] at q
                 have q2 : rest.size = 0 := q
                 apply h141
                 split <;> omega)
              | (refine congrArg Value.bool (decide_eq_true ?_)
                 (repeat' split) <;> omega)
              | (exfalso
                 apply h141
                 split <;> omega)
              | exact rfl
            · refine L_pass rfl rfl rfl rfl rfl ?_
              refine L_pass rfl rfl rfl rfl rfl ?_
              refine L_pass rfl rfl rfl rfl rfl ?_
              refine L_run (.plain rfl) rfl rfl (r_pick_f (v := .bool _) rfl rfl) ?_
              refine L_run (.plain rfl) rfl rfl (r_assign (v := .bool _) rfl) ?_
              refine L_nil ?_
              refine W_ret ?_
              refine ret1 (v := .bool _) rfl rfl ?_
              refine ⟨?_, by (repeat (first | exact Ch.refl _ | assumption | (refine Ch.fresh ?_ (by assumption) (by intro i hi he; first | exact he | (exfalso; have he2 : i = _ := he; omega)))))⟩
              first
              | (have q := ba_pos h126
                 refine congrArg Value.bool (decide_eq_true ?_)
                 split <;> omega)
              | (exfalso
                 have q := ba_pos h126
                 apply h129
                 split <;> omega)
              | (have q := congrArg List.length (ba_nil h126)
                 rw [bs_length] at q
                 have q2 : rest.size = 0 := q
                 refine congrArg Value.bool (decide_eq_true ?_)
                 (repeat' split) <;> omega)
              | (exfalso
                 have q := congrArg List.length (ba_nil h126)
                 rw [bs_length] at q
                 have q2 : rest.size = 0 := q
                 apply h141
                 split <;> omega)
              | (refine congrArg Value.bool (decide_eq_true ?_)
                 (repeat' split) <;> omega)
              | (exfalso
                 apply h141
                 split <;> omega)
              | exact rfl
        · refine L_pass rfl rfl rfl rfl rfl ?_
          refine L_pass rfl rfl rfl rfl rfl ?_
          refine L_run (.plain rfl) rfl rfl (r_pick_f (v := .bool _) rfl rfl) ?_
          refine L_nil ?_
          refine W_false rfl ?_
          refine W_skip ?_
          refine W_seq ?_
          refine W_region ?_
          refine L_run (.plain rfl) rfl rfl (r_move (v := .int _ _) rfl) ?_
          refine L_run (.plain rfl) rfl rfl (r_move (v := .int _ _) rfl) ?_
          refine L_run (.plain rfl) rfl rfl (r_eql rfl rfl) ?_
          refine L_run (.plain rfl) rfl rfl (r_move (v := .bool _) rfl) ?_
          refine L_case (d := 141) rfl (fun h141 => ?_) (fun h141 => ?_)
          · refine L_run (.yes 3 true rfl rfl) rfl rfl (r_move (v := .int _ _) rfl) ?_
            refine L_run (.yes 3 true rfl rfl) rfl rfl (r_move (v := .int _ _) rfl) ?_
            refine L_run (.yes 3 true rfl rfl) rfl rfl (r_eql rfl rfl) ?_
            refine L_run (.plain rfl) rfl rfl (r_pick_t (v := .bool _) rfl rfl) ?_
            refine L_run (.plain rfl) rfl rfl (r_assign (v := .bool _) rfl) ?_
            refine L_nil ?_
            refine W_ret ?_
            refine ret1 (v := .bool _) rfl rfl ?_
            refine ⟨?_, by (repeat (first | exact Ch.refl _ | assumption | (refine Ch.fresh ?_ (by assumption) (by intro i hi he; first | exact he | (exfalso; have he2 : i = _ := he; omega)))))⟩
            first
            | (have q := ba_pos h126
               refine congrArg Value.bool (decide_eq_true ?_)
               split <;> omega)
            | (exfalso
               have q := ba_pos h126
               apply h129
               split <;> omega)
            | (have q := congrArg List.length (ba_nil h126)
               rw [bs_length] at q
               have q2 : rest.size = 0 := q
               refine congrArg Value.bool (decide_eq_true ?_)
               (repeat' split) <;> omega)
            | (exfalso
               have q := congrArg List.length (ba_nil h126)
               rw [bs_length] at q
               have q2 : rest.size = 0 := q
               apply h141
               split <;> omega)
            | (refine congrArg Value.bool (decide_eq_true ?_)
               (repeat' split) <;> omega)
            | (exfalso
               apply h141
               split <;> omega)
            | exact rfl
          · refine L_pass rfl rfl rfl rfl rfl ?_
            refine L_pass rfl rfl rfl rfl rfl ?_
            refine L_pass rfl rfl rfl rfl rfl ?_
            refine L_run (.plain rfl) rfl rfl (r_pick_f (v := .bool _) rfl rfl) ?_
            refine L_run (.plain rfl) rfl rfl (r_assign (v := .bool _) rfl) ?_
            refine L_nil ?_
            refine W_ret ?_
            refine ret1 (v := .bool _) rfl rfl ?_
            refine ⟨?_, by (repeat (first | exact Ch.refl _ | assumption | (refine Ch.fresh ?_ (by assumption) (by intro i hi he; first | exact he | (exfalso; have he2 : i = _ := he; omega)))))⟩
            first
            | (have q := ba_pos h126
               refine congrArg Value.bool (decide_eq_true ?_)
               split <;> omega)
            | (exfalso
               have q := ba_pos h126
               apply h129
               split <;> omega)
            | (have q := congrArg List.length (ba_nil h126)
               rw [bs_length] at q
               have q2 : rest.size = 0 := q
               refine congrArg Value.bool (decide_eq_true ?_)
               (repeat' split) <;> omega)
            | (exfalso
               have q := congrArg List.length (ba_nil h126)
               rw [bs_length] at q
               have q2 : rest.size = 0 := q
               apply h141
               split <;> omega)
            | (refine congrArg Value.bool (decide_eq_true ?_)
               (repeat' split) <;> omega)
            | (exfalso
               apply h141
               split <;> omega)
            | exact rfl
end Go.Proofs.YtikpcphlmlgojaaDoor

