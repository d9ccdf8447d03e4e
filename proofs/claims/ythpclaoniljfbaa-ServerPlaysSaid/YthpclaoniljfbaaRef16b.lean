/- The document's server, walked: where a call is, how many are kept; its list. -/
import Derived.Test.YthpclaoniljfbaaRef16
import Derived.Test.YthpclaoniljfbaaArgs
namespace Go.Proofs.Ythpclaoniljfbaa
open Go Go.RowKit
set_option linter.unusedVariables false
set_option linter.unusedSimpArgs false
structure RCall where
  life : Int
  seq : Int
  done : Bool
  kept : Bool
  reply : Msg
abbrev rcl (c : RCall) : List Value := [.int .u64 c.life, .int .u64 c.seq, .bool c.done, .bool c.kept, .int .i64 c.reply.kind, .int .u64 c.reply.life, .int .u64 c.reply.seq, .int .u64 c.reply.below, .int .u64 c.reply.object, .string c.reply.method, .int .i64 c.reply.way, .string c.reply.body]
def cellsC (L : List RCall) : List Value := L.flatMap rcl
theorem cellsC_append (M K : List RCall) : cellsC (M ++ K) = cellsC M ++ cellsC K := by simp [cellsC]
theorem cellsC_length (M : List RCall) : (cellsC M).length = M.length * 12 := flat_length _ 12 (fun _ => rfl) M
theorem cellsC_row : ∀ (z : List RCall) (i : Nat) (h : i < z.length) (j : Nat) (u : Value), (rcl z[i])[j]? = some u → (cellsC z)[i * 12 + j]? = some u
  | x :: z, 0, _, j, u, hj => by
    have hj9 : j < 12 := by have := (List.getElem?_eq_some_iff.1 hj).1; simpa [rcl] using this
    simp only [cellsC, List.flatMap_cons, Nat.zero_mul, Nat.zero_add]
    rw [List.getElem?_append_left (by simpa [rcl] using hj9)]
    exact hj
  | x :: z, i + 1, h, j, u, hj => by
    have := cellsC_row z i (by simpa using h) j u hj
    simp only [cellsC, List.flatMap_cons]
    rw [List.getElem?_append_right (by simp [rcl]; omega)]
    rw [show (i + 1) * 12 + j - (rcl x).length = i * 12 + j by simp [rcl]; omega]
    exact this
theorem cellsC_one (M : List RCall) : ∀ y ∈ cellsC M, y.oneCell' = true := by
  intro y hy
  simp only [cellsC, List.mem_flatMap] at hy
  obtain ⟨m, _, hy⟩ := hy
  simp only [rcl, List.mem_cons, List.not_mem_nil, or_false] at hy
  rcases hy with rfl | rfl | rfl | rfl | rfl | rfl | rfl | rfl | rfl | rfl | rfl | rfl <;> rfl
/-- One cell of one call, set. -/
theorem cellsC_set (M : List RCall) (i : Nat) (h : i < M.length) (j : Nat) (c : RCall) (u : Value) (hj : j < 12) (hc : (rcl M[i]).set j u = rcl c) : (cellsC M).set (i * 12 + j) u = cellsC (M.set i c) := by
  induction M generalizing i with
  | nil => simp at h
  | cons x M ih =>
    cases i with
    | zero =>
      simp only [cellsC, List.flatMap_cons, Nat.zero_mul, Nat.zero_add, List.set_cons_zero]
      rw [List.set_append_left _ _ (by simpa [rcl] using hj)]
      congr 1
    | succ i =>
      have := ih i (by simpa using h) (by simpa using hc)
      simp only [cellsC, List.flatMap_cons, List.set_cons_succ] at this ⊢
      rw [List.set_append_right _ _ (by simp [rcl]; omega)]
      rw [show (i + 1) * 12 + j - (rcl x).length = i * 12 + j by simp [rcl]; omega, this]
theorem call_info : (Try.prog.info? 52).map (fun i => (i.zero, i.size, i.bytes)) = some (some (.agg #[.int .u64 0, .int .u64 0, .bool false, .bool false, .int .i64 0, .int .u64 0, .int .u64 0, .int .u64 0, .int .u64 0, .string ByteArray.empty, .int .i64 0, .string ByteArray.empty]), 12, 104) := rfl
theorem four_one {v : Value} (h : v.oneCell' = true) (a b c : Int) : (#[Value.int .i64 a, .int .u64 b, .int .u64 c, v].all (·.oneCell')) = true := by
  rw [Array.all_eq_true_iff_forall_mem]
  intro x hx
  simp at hx
  rcases hx with rfl | rfl | rfl | rfl
  · rfl
  · rfl
  · rfl
  · exact h
/-- Where the first one is. -/
def isFind (L : List RCall) (q x : Int) : Prop := (x = -1 ∧ ∀ (j : Nat) (h : j < L.length), ¬ (L[j].kept = true ∧ L[j].seq = q)) ∨ ∃ (k : Nat) (h : k < L.length), x = k ∧ (L[k].kept = true ∧ L[k].seq = q) ∧ ∀ (j : Nat) (h : j < k), ¬ (L[j].kept = true ∧ L[j].seq = q)
set_option maxRecDepth 100000 in
set_option maxHeartbeats 4000000 in
theorem find_walk (most life floor q : Int) (v : Value) (L : List RCall) (w0 : World) (hv : Sl w0 v 12 L.length (cellsC L)) (hl : L.length ≤ 100000) : Does Try.prog 22 #[.agg #[.int .i64 most, .int .u64 life, .int .u64 floor, v], .int .u64 q] w0 (fun r w' => ∃ x, r = .int .i64 x ∧ isFind L q x ∧ Nw w0 w') := by
  refine fn_of (n := 30) (args := [.agg #[.int .i64 most, .int .u64 life, .int .u64 floor, v], .int .u64 q]) Try.func22 rfl rfl rfl ?_
  refine W_seq ?_
  refine W_region ?_
  refine L_new (.plain rfl) rfl rfl (r_boxa rfl) (fun w1 b2 hb2 eb1 hs1 c1 => ?_)
  refine L_run (.plain rfl) rfl rfl (r_assign (v := .int _ _) rfl) ?_
  refine L_nil ?_
  refine W_seq ?_
  refine W_seq ?_
  refine W_region ?_
  refine L_run (.plain rfl) rfl rfl (r_assign (v := .int _ _) rfl) ?_
  refine L_nil ?_
  refine W_block ?_
  refine W_loopF [1, 2] (fun mz_ f W => ∃ (i : Nat), f 5 = .int .i64 i ∧ (i ≤ L.length ∧ (∀ (j : Nat) (h : j < L.length), j < i → ¬ (L[j].kept = true ∧ L[j].seq = q)) ∧ Bk W b2 #[.int .i64 most, .int .u64 life, .int .u64 floor, v] 31 ∧ Nw w0 W) ∧ mz_ = L.length - i) ?_ ?_
  · refine ⟨_, 0, rfl, ?_, rfl⟩
    exact ⟨by omega, fun j h hj => by omega, by (exact Bk.to (by assumption) (by (repeat (first | exact Sm.refl _ _ | (refine Sm.stepT (by assumption) (by intro hlt hsm; first | exact not_no | (intro he; have he2 : _ = _ := he; omega)) ?_))))), by (repeat (first | exact Ch.refl _ | assumption | (refine Ch.fresh ?_ (by assumption) (by intro i hi he; first | exact he | exact (not_no he).elim | (exfalso; have he2 : i = _ := he; omega)))))⟩
  rintro m0 g0 w2 ⟨i, hf5, hR0, rfl⟩
  refine W_as 5 hf5 rfl ?_
  clear hf5
  obtain ⟨hi, hno, hbx, hnw⟩ := hR0
  have hz := hnw.size
  refine W_seq ?_
  refine W_seq ?_
  refine W_region ?_
  refine L_run (.plain rfl) rfl rfl (r_move (v := .int _ _) rfl) ?_
  refine L_run (.plain rfl) rfl rfl (r_fieldb Try.underlying31 rfl (show _ = some 1 from rfl) rfl rfl (show _ = 3 from rfl)) ?_
  refine L_run (.plain rfl) rfl rfl (r_loadb rfl rfl (by (exact Bk.to (by assumption) (by (repeat (first | exact Sm.refl _ _ | (refine Sm.stepT (by assumption) (by intro hlt hsm; first | exact not_no | (intro he; have he2 : _ = _ := he; omega)) ?_)))))) (by first | assumption | (conv => lhs; simp only [List.getElem?_toArray, List.getElem?_cons_succ, List.getElem?_cons_zero]))) ?_
  refine L_run (.plain rfl) rfl rfl (r_lenSl Try.underlying29 (by conv => lhs; whnf) (by (exact Sl.to (by first | assumption | exact Sl.own (by assumption) | exact Mu.sl (by assumption) | exact Ow.sl (by assumption)) (fun i hi => by (repeat (first | exact Sm.refl _ _ | (refine Sm.stepT (by assumption) (by intro hlt hsm; first | exact not_no | (intro he; have he2 : _ = _ := he; omega)) ?_))))))) ?_
  refine L_run (.plain rfl) rfl rfl (r_lss rfl rfl) ?_
  refine L_nil ?_
  refine W_if rfl (fun h10 => ?_) (fun h10 => ?_)
  · have hin : i < L.length := by omega
    obtain ⟨c, hc⟩ : ∃ c, c = L[i] := ⟨_, rfl⟩
    have hrow : ∀ (j : Nat) (u : Value), (rcl c)[j]? = some u → (cellsC L)[i * 12 + j]? = some u := by rw [hc]; exact cellsC_row L i hin
    refine W_skip ?_
    refine W_seq ?_
    refine W_block ?_
    refine W_seq ?_
    refine W_region ?_
    refine L_run (.plain rfl) rfl rfl (r_fieldb Try.underlying31 rfl (show _ = some 1 from rfl) rfl rfl (show _ = 3 from rfl)) ?_
    refine L_run (.plain rfl) rfl rfl (r_loadb rfl rfl (by (exact Bk.to (by assumption) (by (repeat (first | exact Sm.refl _ _ | (refine Sm.stepT (by assumption) (by intro hlt hsm; first | exact not_no | (intro he; have he2 : _ = _ := he; omega)) ?_)))))) (by first | assumption | (conv => lhs; simp only [List.getElem?_toArray, List.getElem?_cons_succ, List.getElem?_cons_zero]))) ?_
    refine L_run (.plain rfl) rfl rfl (r_move (v := .int _ _) rfl) ?_
    refine L_run (.plain rfl) rfl rfl (r_idxSl Try.underlying29 (show _ = some 12 from rfl) (by conv => lhs; whnf) rfl (by (exact Sl.to (by first | assumption | exact Sl.own (by assumption) | exact Mu.sl (by assumption) | exact Ow.sl (by assumption)) (fun i hi => by (repeat (first | exact Sm.refl _ _ | (refine Sm.stepT (by assumption) (by intro hlt hsm; first | exact not_no | (intro he; have he2 : _ = _ := he; omega)) ?_)))))) (by omega) (by omega) (by conv => lhs; (try simp only [Nat.mul_one, Nat.zero_add, Int.toNat_natCast, Int.toNat_zero, Int.reduceToNat, Nat.reduceMul, Nat.reduceAdd]))) ?_
    refine L_run (.plain rfl) rfl rfl (r_fieldSl Try.underlying52 rfl (show _ = some 1 from rfl) rfl (show _ = 3 from rfl) rfl rfl) ?_
    refine L_run (.plain rfl) rfl rfl (r_loadSl rfl rfl (by (exact Sl.to (by first | assumption | exact Sl.own (by assumption) | exact Mu.sl (by assumption) | exact Ow.sl (by assumption)) (fun i hi => by (repeat (first | exact Sm.refl _ _ | (refine Sm.stepT (by assumption) (by intro hlt hsm; first | exact not_no | (intro he; have he2 : _ = _ := he; omega)) ?_)))))) (by first | assumption | exact hrow 3 _ rfl | exact hrow 1 _ rfl | (conv => lhs; simp only [List.getElem?_toArray, List.getElem?_cons_succ, List.getElem?_cons_zero]))) ?_
    refine L_run (.plain rfl) rfl rfl (r_move (v := .bool _) rfl) ?_
    refine L_caseb (d := 19) rfl (fun h19 => ?_) (fun h19 => ?_)
    · refine L_run (.yes 6 true rfl rfl) rfl rfl (r_fieldb Try.underlying31 rfl (show _ = some 1 from rfl) rfl rfl (show _ = 3 from rfl)) ?_
      refine L_run (.yes 6 true rfl rfl) rfl rfl (r_loadb rfl rfl (by (exact Bk.to (by assumption) (by (repeat (first | exact Sm.refl _ _ | (refine Sm.stepT (by assumption) (by intro hlt hsm; first | exact not_no | (intro he; have he2 : _ = _ := he; omega)) ?_)))))) (by first | assumption | (conv => lhs; simp only [List.getElem?_toArray, List.getElem?_cons_succ, List.getElem?_cons_zero]))) ?_
      refine L_run (.yes 6 true rfl rfl) rfl rfl (r_move (v := .int _ _) rfl) ?_
      refine L_run (.yes 6 true rfl rfl) rfl rfl (r_idxSl Try.underlying29 (show _ = some 12 from rfl) (by conv => lhs; whnf) rfl (by (exact Sl.to (by first | assumption | exact Sl.own (by assumption) | exact Mu.sl (by assumption) | exact Ow.sl (by assumption)) (fun i hi => by (repeat (first | exact Sm.refl _ _ | (refine Sm.stepT (by assumption) (by intro hlt hsm; first | exact not_no | (intro he; have he2 : _ = _ := he; omega)) ?_)))))) (by omega) (by omega) (by conv => lhs; (try simp only [Nat.mul_one, Nat.zero_add, Int.toNat_natCast, Int.toNat_zero, Int.reduceToNat, Nat.reduceMul, Nat.reduceAdd]))) ?_
      refine L_run (.yes 6 true rfl rfl) rfl rfl (r_fieldSl Try.underlying52 rfl (show _ = some 1 from rfl) rfl (show _ = 1 from rfl) rfl rfl) ?_
      refine L_run (.yes 6 true rfl rfl) rfl rfl (r_loadSl rfl rfl (by (exact Sl.to (by first | assumption | exact Sl.own (by assumption) | exact Mu.sl (by assumption) | exact Ow.sl (by assumption)) (fun i hi => by (repeat (first | exact Sm.refl _ _ | (refine Sm.stepT (by assumption) (by intro hlt hsm; first | exact not_no | (intro he; have he2 : _ = _ := he; omega)) ?_)))))) (by first | assumption | exact hrow 3 _ rfl | exact hrow 1 _ rfl | (conv => lhs; simp only [List.getElem?_toArray, List.getElem?_cons_succ, List.getElem?_cons_zero]))) ?_
      refine L_run (.yes 6 true rfl rfl) rfl rfl (r_move (v := .int _ _) rfl) ?_
      refine L_run (.yes 6 true rfl rfl) rfl rfl (r_eql rfl rfl) ?_
      refine L_run (.plain rfl) rfl rfl (r_pick_t (v := .bool _) rfl rfl) ?_
      refine L_nil ?_
      refine W_if rfl (fun h28 => ?_) (fun h28 => ?_)
      · refine W_seq ?_
        refine W_region ?_
        refine L_run (.plain rfl) rfl rfl (r_move (v := .int _ _) rfl) ?_
        refine L_run (.plain rfl) rfl rfl (r_assign (v := .int _ _) rfl) ?_
        refine L_nil ?_
        refine W_ret ?_
        refine ret1 (v := .int _ _) rfl rfl ?_
        first
          | exact ⟨_, rfl, .inr ⟨i, hin, rfl, ⟨by rw [← hc]; assumption, by rw [← hc]; assumption⟩, fun j hj => hno j (by omega) hj⟩, by (repeat (first | exact Ch.refl _ | assumption | (refine Ch.fresh ?_ (by assumption) (by intro i hi he; first | exact he | exact (not_no he).elim | (exfalso; have he2 : i = _ := he; omega)))))⟩
          | exact ⟨_, rfl, .inl ⟨rfl, fun j h => hno j h (by omega)⟩, by (repeat (first | exact Ch.refl _ | assumption | (refine Ch.fresh ?_ (by assumption) (by intro i hi he; first | exact he | exact (not_no he).elim | (exfalso; have he2 : i = _ := he; omega)))))⟩
      · refine W_skip ?_
        refine W_region ?_
        refine L_run (.plain rfl) rfl rfl (r_move (v := .int _ _) rfl) ?_
        refine L_run (.plain rfl) rfl rfl (r_add rfl rfl (by first | exact wr_i64 (by omega) | rfl)) ?_
        refine L_run (.plain rfl) rfl rfl (r_assign (v := .int _ _) rfl) ?_
        refine L_nil ?_
        refine ⟨⟨rfl, rfl, trivial⟩, _, ?_, i + 1, rfl, ?_, rfl⟩
        · omega
        refine ⟨by omega, fun j h hj => ?_, by (exact Bk.to (by assumption) (by (repeat (first | exact Sm.refl _ _ | (refine Sm.stepT (by assumption) (by intro hlt hsm; first | exact not_no | (intro he; have he2 : _ = _ := he; omega)) ?_))))), by (repeat (first | exact Ch.refl _ | assumption | (refine Ch.fresh ?_ (by assumption) (by intro i hi he; first | exact he | exact (not_no he).elim | (exfalso; have he2 : i = _ := he; omega)))))⟩
        by_cases e : j < i
        · exact hno j h e
        · have e2 : j = i := by omega
          subst e2
          rintro ⟨k1, k2⟩
          rw [← hc] at k1 k2
          first
            | exact absurd k2 (by assumption)
            | (rw [k1] at h19; cases h19)
    · refine L_pass rfl rfl rfl rfl rfl ?_
      refine L_pass rfl rfl rfl rfl rfl ?_
      refine L_pass rfl rfl rfl rfl rfl ?_
      refine L_pass rfl rfl rfl rfl rfl ?_
      refine L_pass rfl rfl rfl rfl rfl ?_
      refine L_pass rfl rfl rfl rfl rfl ?_
      refine L_pass rfl rfl rfl rfl rfl ?_
      refine L_pass rfl rfl rfl rfl rfl ?_
      refine L_run (.plain rfl) rfl rfl (r_pick_f (v := .bool _) rfl rfl) ?_
      refine L_nil ?_
      refine W_false rfl ?_
      refine W_skip ?_
      refine W_region ?_
      refine L_run (.plain rfl) rfl rfl (r_move (v := .int _ _) rfl) ?_
      refine L_run (.plain rfl) rfl rfl (r_add rfl rfl (by first | exact wr_i64 (by omega) | rfl)) ?_
      refine L_run (.plain rfl) rfl rfl (r_assign (v := .int _ _) rfl) ?_
      refine L_nil ?_
      refine ⟨⟨rfl, rfl, trivial⟩, _, ?_, i + 1, rfl, ?_, rfl⟩
      · omega
      refine ⟨by omega, fun j h hj => ?_, by (exact Bk.to (by assumption) (by (repeat (first | exact Sm.refl _ _ | (refine Sm.stepT (by assumption) (by intro hlt hsm; first | exact not_no | (intro he; have he2 : _ = _ := he; omega)) ?_))))), by (repeat (first | exact Ch.refl _ | assumption | (refine Ch.fresh ?_ (by assumption) (by intro i hi he; first | exact he | exact (not_no he).elim | (exfalso; have he2 : i = _ := he; omega)))))⟩
      by_cases e : j < i
      · exact hno j h e
      · have e2 : j = i := by omega
        subst e2
        rintro ⟨k1, k2⟩
        rw [← hc] at k1 k2
        first
          | exact absurd k2 (by assumption)
          | (rw [k1] at h19; cases h19)
  · refine W_exit ?_
    repeat (first | refine blk_hit ?_ | refine blk_miss rfl ?_)
    refine W_seq ?_
    refine W_region ?_
    refine L_run (.plain rfl) rfl rfl (r_assign (v := .int _ _) rfl) ?_
    refine L_nil ?_
    refine W_ret ?_
    refine ret1 (v := .int _ _) rfl rfl ?_
    first
      | exact ⟨_, rfl, .inr ⟨i, hin, rfl, ⟨by rw [← hc]; assumption, by rw [← hc]; assumption⟩, fun j hj => hno j (by omega) hj⟩, by (repeat (first | exact Ch.refl _ | assumption | (refine Ch.fresh ?_ (by assumption) (by intro i hi he; first | exact he | exact (not_no he).elim | (exfalso; have he2 : i = _ := he; omega)))))⟩
      | exact ⟨_, rfl, .inl ⟨rfl, fun j h => hno j h (by omega)⟩, by (repeat (first | exact Ch.refl _ | assumption | (refine Ch.fresh ?_ (by assumption) (by intro i hi he; first | exact he | exact (not_no he).elim | (exfalso; have he2 : i = _ := he; omega)))))⟩
def keptN (L : List RCall) : Nat := (L.filter (·.kept)).length
set_option maxRecDepth 100000 in
set_option maxHeartbeats 4000000 in
theorem rkept_walk (most life floor : Int) (v : Value) (L : List RCall) (w0 : World) (hv : Sl w0 v 12 L.length (cellsC L)) (hl : L.length ≤ 100000) : Does Try.prog 16 #[.agg #[.int .i64 most, .int .u64 life, .int .u64 floor, v]] w0 (fun r w' => r = .int .i64 (keptN L) ∧ Nw w0 w') := by
  refine fn_of (n := 21) (args := [.agg #[.int .i64 most, .int .u64 life, .int .u64 floor, v]]) Try.func16 rfl rfl rfl ?_
  refine W_seq ?_
  refine W_region ?_
  refine L_new (.plain rfl) rfl rfl (r_boxa rfl) (fun w1 b1 hb1 eb1 hs1 c1 => ?_)
  refine L_run (.plain rfl) rfl rfl (r_assign (v := .int _ _) rfl) ?_
  refine L_nil ?_
  refine W_seq ?_
  refine W_region ?_
  refine L_run (.plain rfl) rfl rfl (r_assign (v := .int _ _) rfl) ?_
  refine L_nil ?_
  refine W_seq ?_
  refine W_seq ?_
  refine W_region ?_
  refine L_run (.plain rfl) rfl rfl (r_assign (v := .int _ _) rfl) ?_
  refine L_nil ?_
  refine W_block ?_
  refine W_loopF [1] (fun mz_ f W => ∃ (i : Nat) (n : Nat), f 4 = .int .i64 i ∧ f 3 = .int .i64 n ∧ (i ≤ L.length ∧ n = keptN (L.take i) ∧ n ≤ i ∧ Bk W b1 #[.int .i64 most, .int .u64 life, .int .u64 floor, v] 31 ∧ Nw w0 W) ∧ mz_ = L.length - i) ?_ ?_
  · refine ⟨_, 0, 0, rfl, rfl, ?_, rfl⟩
    exact ⟨by omega, rfl, by omega, by (exact Bk.to (by assumption) (by (repeat (first | exact Sm.refl _ _ | (refine Sm.stepT (by assumption) (by intro hlt hsm; first | exact not_no | (intro he; have he2 : _ = _ := he; omega)) ?_))))), by (repeat (first | exact Ch.refl _ | assumption | (refine Ch.fresh ?_ (by assumption) (by intro i hi he; first | exact he | exact (not_no he).elim | (exfalso; have he2 : i = _ := he; omega)))))⟩
  rintro m0 g0 w2 ⟨i, n, hf4, hf3, hR0, rfl⟩
  refine W_as 4 hf4 rfl ?_
  refine W_as 3 hf3 rfl ?_
  clear hf4 hf3
  obtain ⟨hi, hn, hni, hbx, hnw⟩ := hR0
  have hz := hnw.size
  obtain ⟨n', hn'⟩ : ∃ x, x = n := ⟨_, rfl⟩
  refine W_seq ?_
  refine W_seq ?_
  refine W_region ?_
  refine L_run (.plain rfl) rfl rfl (r_move (v := .int _ _) rfl) ?_
  refine L_run (.plain rfl) rfl rfl (r_fieldb Try.underlying31 rfl (show _ = some 1 from rfl) rfl rfl (show _ = 3 from rfl)) ?_
  refine L_run (.plain rfl) rfl rfl (r_loadb rfl rfl (by (exact Bk.to (by assumption) (by (repeat (first | exact Sm.refl _ _ | (refine Sm.stepT (by assumption) (by intro hlt hsm; first | exact not_no | (intro he; have he2 : _ = _ := he; omega)) ?_)))))) (by first | assumption | (conv => lhs; simp only [List.getElem?_toArray, List.getElem?_cons_succ, List.getElem?_cons_zero]))) ?_
  refine L_run (.plain rfl) rfl rfl (r_lenSl Try.underlying29 (by conv => lhs; whnf) (by (exact Sl.to (by first | assumption | exact Sl.own (by assumption) | exact Mu.sl (by assumption) | exact Ow.sl (by assumption)) (fun i hi => by (repeat (first | exact Sm.refl _ _ | (refine Sm.stepT (by assumption) (by intro hlt hsm; first | exact not_no | (intro he; have he2 : _ = _ := he; omega)) ?_))))))) ?_
  refine L_run (.plain rfl) rfl rfl (r_lss rfl rfl) ?_
  refine L_nil ?_
  refine W_if rfl (fun h9 => ?_) (fun h9 => ?_)
  · have hin : i < L.length := by omega
    obtain ⟨c, hc⟩ : ∃ c, c = L[i] := ⟨_, rfl⟩
    have hrow : ∀ (j : Nat) (u : Value), (rcl c)[j]? = some u → (cellsC L)[i * 12 + j]? = some u := by rw [hc]; exact cellsC_row L i hin
    refine W_skip ?_
    refine W_seq ?_
    refine W_block ?_
    refine W_seq ?_
    refine W_region ?_
    refine L_run (.plain rfl) rfl rfl (r_fieldb Try.underlying31 rfl (show _ = some 1 from rfl) rfl rfl (show _ = 3 from rfl)) ?_
    refine L_run (.plain rfl) rfl rfl (r_loadb rfl rfl (by (exact Bk.to (by assumption) (by (repeat (first | exact Sm.refl _ _ | (refine Sm.stepT (by assumption) (by intro hlt hsm; first | exact not_no | (intro he; have he2 : _ = _ := he; omega)) ?_)))))) (by first | assumption | (conv => lhs; simp only [List.getElem?_toArray, List.getElem?_cons_succ, List.getElem?_cons_zero]))) ?_
    refine L_run (.plain rfl) rfl rfl (r_move (v := .int _ _) rfl) ?_
    refine L_run (.plain rfl) rfl rfl (r_idxSl Try.underlying29 (show _ = some 12 from rfl) (by conv => lhs; whnf) rfl (by (exact Sl.to (by first | assumption | exact Sl.own (by assumption) | exact Mu.sl (by assumption) | exact Ow.sl (by assumption)) (fun i hi => by (repeat (first | exact Sm.refl _ _ | (refine Sm.stepT (by assumption) (by intro hlt hsm; first | exact not_no | (intro he; have he2 : _ = _ := he; omega)) ?_)))))) (by omega) (by omega) (by conv => lhs; (try simp only [Nat.mul_one, Nat.zero_add, Int.toNat_natCast, Int.toNat_zero, Int.reduceToNat, Nat.reduceMul, Nat.reduceAdd]))) ?_
    refine L_run (.plain rfl) rfl rfl (r_fieldSl Try.underlying52 rfl (show _ = some 1 from rfl) rfl (show _ = 3 from rfl) rfl rfl) ?_
    refine L_run (.plain rfl) rfl rfl (r_loadSl rfl rfl (by (exact Sl.to (by first | assumption | exact Sl.own (by assumption) | exact Mu.sl (by assumption) | exact Ow.sl (by assumption)) (fun i hi => by (repeat (first | exact Sm.refl _ _ | (refine Sm.stepT (by assumption) (by intro hlt hsm; first | exact not_no | (intro he; have he2 : _ = _ := he; omega)) ?_)))))) (by first | assumption | exact hrow 3 _ rfl | (conv => lhs; simp only [List.getElem?_toArray, List.getElem?_cons_succ, List.getElem?_cons_zero]))) ?_
    refine L_nil ?_
    refine W_bool rfl (fun h17 => ?_) (fun h17 => ?_)
    · clear hn'
      obtain ⟨n', hn'⟩ : ∃ x, x = n + 1 := ⟨_, rfl⟩
      refine W_region ?_
      refine L_run (.plain rfl) rfl rfl (r_move (v := .int _ _) rfl) ?_
      refine L_run (.plain rfl) rfl rfl (r_add rfl rfl (by first | exact wr_i64 (by omega) | rfl)) ?_
      refine L_run (.plain rfl) rfl rfl (r_assign (v := .int _ _) rfl) ?_
      refine L_nil ?_
      refine W_region ?_
      refine L_run (.plain rfl) rfl rfl (r_move (v := .int _ _) rfl) ?_
      refine L_run (.plain rfl) rfl rfl (r_add rfl rfl (by first | exact wr_i64 (by omega) | rfl)) ?_
      refine L_run (.plain rfl) rfl rfl (r_assign (v := .int _ _) rfl) ?_
      refine L_nil ?_
      refine ⟨⟨rfl, trivial⟩, _, ?_, i + 1, n', rfl, (by rw [hn']; rfl), ?_, rfl⟩
      · omega
      first
        | (subst hn'
           exact ⟨by omega, by rw [List.take_succ_eq_append_getElem hin]; unfold keptN at *; rw [List.filter_append, List.length_append, ← hc, List.filter_cons_of_neg (by rw [h17]; decide)]; simp; omega, by omega, by (exact Bk.to (by assumption) (by (repeat (first | exact Sm.refl _ _ | (refine Sm.stepT (by assumption) (by intro hlt hsm; first | exact not_no | (intro he; have he2 : _ = _ := he; omega)) ?_))))), by (repeat (first | exact Ch.refl _ | assumption | (refine Ch.fresh ?_ (by assumption) (by intro i hi he; first | exact he | exact (not_no he).elim | (exfalso; have he2 : i = _ := he; omega)))))⟩)
        | (subst hn'
           exact ⟨by omega, by rw [List.take_succ_eq_append_getElem hin]; unfold keptN at *; rw [List.filter_append, List.length_append, ← hc, List.filter_cons_of_pos (by rw [h17])]; simp; omega, by omega, by (exact Bk.to (by assumption) (by (repeat (first | exact Sm.refl _ _ | (refine Sm.stepT (by assumption) (by intro hlt hsm; first | exact not_no | (intro he; have he2 : _ = _ := he; omega)) ?_))))), by (repeat (first | exact Ch.refl _ | assumption | (refine Ch.fresh ?_ (by assumption) (by intro i hi he; first | exact he | exact (not_no he).elim | (exfalso; have he2 : i = _ := he; omega)))))⟩)
    · refine W_skip ?_
      refine W_region ?_
      refine L_run (.plain rfl) rfl rfl (r_move (v := .int _ _) rfl) ?_
      refine L_run (.plain rfl) rfl rfl (r_add rfl rfl (by first | exact wr_i64 (by omega) | rfl)) ?_
      refine L_run (.plain rfl) rfl rfl (r_assign (v := .int _ _) rfl) ?_
      refine L_nil ?_
      refine ⟨⟨rfl, trivial⟩, _, ?_, i + 1, n', rfl, (by rw [hn']; rfl), ?_, rfl⟩
      · omega
      first
        | (subst hn'
           exact ⟨by omega, by rw [List.take_succ_eq_append_getElem hin]; unfold keptN at *; rw [List.filter_append, List.length_append, ← hc, List.filter_cons_of_neg (by rw [h17]; decide)]; simp; omega, by omega, by (exact Bk.to (by assumption) (by (repeat (first | exact Sm.refl _ _ | (refine Sm.stepT (by assumption) (by intro hlt hsm; first | exact not_no | (intro he; have he2 : _ = _ := he; omega)) ?_))))), by (repeat (first | exact Ch.refl _ | assumption | (refine Ch.fresh ?_ (by assumption) (by intro i hi he; first | exact he | exact (not_no he).elim | (exfalso; have he2 : i = _ := he; omega)))))⟩)
        | (subst hn'
           exact ⟨by omega, by rw [List.take_succ_eq_append_getElem hin]; unfold keptN at *; rw [List.filter_append, List.length_append, ← hc, List.filter_cons_of_pos (by rw [h17])]; simp; omega, by omega, by (exact Bk.to (by assumption) (by (repeat (first | exact Sm.refl _ _ | (refine Sm.stepT (by assumption) (by intro hlt hsm; first | exact not_no | (intro he; have he2 : _ = _ := he; omega)) ?_))))), by (repeat (first | exact Ch.refl _ | assumption | (refine Ch.fresh ?_ (by assumption) (by intro i hi he; first | exact he | exact (not_no he).elim | (exfalso; have he2 : i = _ := he; omega)))))⟩)
  · refine W_exit ?_
    repeat (first | refine blk_hit ?_ | refine blk_miss rfl ?_)
    refine W_seq ?_
    refine W_region ?_
    refine L_run (.plain rfl) rfl rfl (r_move (v := .int _ _) rfl) ?_
    refine L_run (.plain rfl) rfl rfl (r_assign (v := .int _ _) rfl) ?_
    refine L_nil ?_
    refine W_ret ?_
    refine ret1 (v := .int _ _) rfl rfl ?_
    exact ⟨by rw [hn, show i = L.length by omega, List.take_length], by (repeat (first | exact Ch.refl _ | assumption | (refine Ch.fresh ?_ (by assumption) (by intro i hi he; first | exact he | exact (not_no he).elim | (exfalso; have he2 : i = _ := he; omega)))))⟩
theorem rreply_walk (life seq way : Int) (body : ByteArray) (w0 : World) : Does Try.prog 23 #[.int .u64 life, .int .u64 seq, .int .i64 way, .string body] w0 (fun r w' => r = Msg.v ⟨1, life, seq, 0, 0, { data := #[] }, way, body⟩ ∧ Nw w0 w') := by
  refine fn_of (n := 14) (args := [.int .u64 life, .int .u64 seq, .int .i64 way, .string body]) Try.func23 rfl rfl rfl ?_
  refine W_seq ?_
  refine W_region ?_
  refine L_new (.plain rfl) rfl rfl (r_alloca rfl) (fun w1 b8 hb8 eb1 hs1 c1 => ?_)
  refine L_nil ?_
  refine W_seq ?_
  refine W_region ?_
  refine L_run (.plain rfl) rfl rfl (r_move (v := .int _ _) rfl) ?_
  refine L_run (.plain rfl) rfl rfl (r_move (v := .int _ _) rfl) ?_
  refine L_run (.plain rfl) rfl rfl (r_move (v := .int _ _) rfl) ?_
  refine L_run (.plain rfl) rfl rfl (r_move (v := .string _) rfl) ?_
  refine L_run (.plain rfl) rfl rfl (r_build1 (pl := [(0, 1), (1, 1), (2, 1), (3, 1), (4, 1), (5, 1), (6, 1), (7, 1)]) (vs := [(0, .int _ _), (1, .int _ _), (2, .int _ _), (6, .int _ _), (7, .string _)]) (cells := [_, _, _, _, _, _, _, _]) Try.underlying33 rfl rfl (by rfl) rfl (by rfl)) ?_
  refine L_storerow (.plain rfl) rfl rfl (by (exact Bk.to (by assumption) (by (repeat (first | exact Sm.refl _ _ | (refine Sm.stepT (by assumption) (by intro hlt hsm; first | exact not_no | (intro he; have he2 : _ = some _ := he; have := own_base (by assumption) he2; omega) | (intro he; have he2 : _ = _ := he; omega) | (intro he; have he2 : _ = some _ := he; have := ow_base (by assumption) he2; omega) | (intro he; have := he.1; omega) | exact bk_not (by assumption) hsm rfl | exact mp_not (by assumption) hsm | exact bkm_not (by assumption) hsm rfl | exact ownm_not (by assumption) hi hsm rfl | exact owm_not (by assumption) hi hsm rfl | exact own_not (by assumption) hi hsm rfl | exact ow_not (by assumption) hi hsm rfl | (intro he; have he2 : _ = some _ := he; have := Ow.lt (by assumption) he2; omega) | (intro he; have he2 : _ = some _ := he; have := Ow.lt (by assumption) he2; have := own_base (by assumption) hi; omega) | (intro he; have he2 : _ = some _ := he; have := Ow.lt how he2; first | omega | (have := own_base (by assumption) hi; omega)) | (intro he; have he2 : _ = _ := he; have := Ow.lt how hi; omega) | (intro he; have he2 : _ = _ := he; have := own_base (by assumption) hi; omega) | (intro he; have he2 : _ = _ := he; have := ow_base (by assumption) hi; omega) | (intro he; have he2 : _ = _ := he; rw [he2] at hi; exact absurd hi (by assumption)) | (intro he; have he2 : _ = some _ := he; have h3 := own_lt (by assumption) he2; first | omega | (have h4 : _ = some _ := hi; simp [Value.ownBlock] at h4; omega)) | (intro he; have he2 : _ = some _ := he; have h3 := ow_base (by assumption) he2; have h4 : _ = some _ := hi; simp [Value.ownBlock] at h4; omega) | (intro he; have he2 : _ = some _ := he; exact absurd he2 (hsep _ hi)) | (intro he; have he2 : _ = _ := he; have := hlo _ hi; omega) | (intro he; have he2 : _ = some _ := he; have := hlo _ he2; omega) | (intro he; first | exact absurd he (by assumption) | exact absurd he.symm (by assumption))) ?_)))))) (by first | rfl | (simp; done) | assumption) (by first | rfl | assumption) (by first | rfl | (simp [Value.oneCell']; done) | assumption) (fun w2 hb2 hs2 c2 => ?_)
  refine L_nil ?_
  refine W_ret ?_
  refine r_ret_row rfl rfl Try.underlying33 rfl (by (exact Bk.to (by assumption) (by (repeat (first | exact Sm.refl _ _ | (refine Sm.stepT (by assumption) (by intro hlt hsm; first | exact not_no | (intro he; have he2 : _ = some _ := he; have := own_base (by assumption) he2; omega) | (intro he; have he2 : _ = _ := he; omega) | (intro he; have he2 : _ = some _ := he; have := ow_base (by assumption) he2; omega) | (intro he; have := he.1; omega) | exact bk_not (by assumption) hsm rfl | exact mp_not (by assumption) hsm | exact bkm_not (by assumption) hsm rfl | exact ownm_not (by assumption) hi hsm rfl | exact owm_not (by assumption) hi hsm rfl | exact own_not (by assumption) hi hsm rfl | exact ow_not (by assumption) hi hsm rfl | (intro he; have he2 : _ = some _ := he; have := Ow.lt (by assumption) he2; omega) | (intro he; have he2 : _ = some _ := he; have := Ow.lt (by assumption) he2; have := own_base (by assumption) hi; omega) | (intro he; have he2 : _ = some _ := he; have := Ow.lt how he2; first | omega | (have := own_base (by assumption) hi; omega)) | (intro he; have he2 : _ = _ := he; have := Ow.lt how hi; omega) | (intro he; have he2 : _ = _ := he; have := own_base (by assumption) hi; omega) | (intro he; have he2 : _ = _ := he; have := ow_base (by assumption) hi; omega) | (intro he; have he2 : _ = _ := he; rw [he2] at hi; exact absurd hi (by assumption)) | (intro he; have he2 : _ = some _ := he; have h3 := own_lt (by assumption) he2; first | omega | (have h4 : _ = some _ := hi; simp [Value.ownBlock] at h4; omega)) | (intro he; have he2 : _ = some _ := he; have h3 := ow_base (by assumption) he2; have h4 : _ = some _ := hi; simp [Value.ownBlock] at h4; omega) | (intro he; have he2 : _ = some _ := he; exact absurd he2 (hsep _ hi)) | (intro he; have he2 : _ = _ := he; have := hlo _ hi; omega) | (intro he; have he2 : _ = some _ := he; have := hlo _ he2; omega) | (intro he; first | exact absurd he (by assumption) | exact absurd he.symm (by assumption))) ?_)))))) (by first | rfl | assumption) ?_
  exact ⟨rfl, by (repeat (first | exact Ch.refl _ | assumption | (refine Ch.fresh ?_ (by assumption) (by intro i hi he; first | exact he | exact (not_no he).elim | exact Or.inl he | exact Or.inr (Or.inl he) | exact Or.inr (Or.inr he) | (exfalso; have he2 : _ = some i := he; have := own_base (by assumption) he2; omega) | (exfalso; have he2 : i = _ := he; omega) | (exfalso; have he2 : _ = some i := he; have := ow_base (by assumption) he2; omega) | (exfalso; have := he.1; omega) | (exfalso; have he2 : _ = some i := he; have := hlo _ he2; omega)))))⟩
end Go.Proofs.Ythpclaoniljfbaa

