/- Messages, put; walked. -/
import Derived.Test.YtcbcelfgbelaoaaDoorMsgP
import Derived.Test.YtcbcelfgbelaoaaDoorFrameQ
namespace Go.Proofs.YtcbcelfgbelaoaaDoor
open Go Go.RowKit
set_option linter.unusedVariables false
set_option linter.unusedSimpArgs false
theorem answers_walk (m c : Msg) (w0 : World) : Does Tryd.prog 17 #[m.v, c.v] w0 (fun r w' => r = .bool (decide (m.kind = 1 ∧ c.kind = 0 ∧ m.life = c.life ∧ m.seq = c.seq)) ∧ Nw w0 w') := by
  refine fn_of (n := 27) (args := [m.v, c.v]) Tryd.func17 rfl rfl rfl ?_
  refine W_seq ?_
  refine W_region ?_
  refine L_new (.plain rfl) rfl rfl (r_boxa rfl) (fun w1 b2 hb2 eb1 hs1 c1 => ?_)
  refine L_new (.plain rfl) rfl rfl (r_boxa rfl) (fun w2 b3 hb3 eb2 hs2 c2 => ?_)
  refine L_run (.plain rfl) rfl rfl (r_assign (v := .bool _) rfl) ?_
  refine L_nil ?_
  refine W_seq ?_
  refine W_region ?_
  refine L_run (.plain rfl) rfl rfl (r_fieldb Tryd.underlying24 rfl (show _ = some 1 from rfl) rfl rfl (show _ = 0 from rfl)) ?_
  refine L_run (.plain rfl) rfl rfl (r_loadb rfl rfl (by (exact Bk.to (by assumption) (by (repeat (first | exact Sm.refl _ _ | (refine Sm.stepT (by assumption) (by intro hlt hsm; exact not_no) ?_)))))) (by first | assumption | (conv => lhs; simp only [List.getElem?_toArray, List.getElem?_cons_succ, List.getElem?_cons_zero]))) ?_
  refine L_run (.plain rfl) rfl rfl (r_eql rfl rfl) ?_
  refine L_run (.plain rfl) rfl rfl (r_move (v := .bool _) rfl) ?_
  refine L_case (d := 8) rfl (fun h8 => ?_) (fun h8 => ?_)
  · refine L_run (.yes 3 true rfl rfl) rfl rfl (r_fieldb Tryd.underlying24 rfl (show _ = some 1 from rfl) rfl rfl (show _ = 0 from rfl)) ?_
    refine L_run (.yes 3 true rfl rfl) rfl rfl (r_loadb rfl rfl (by (exact Bk.to (by assumption) (by (repeat (first | exact Sm.refl _ _ | (refine Sm.stepT (by assumption) (by intro hlt hsm; exact not_no) ?_)))))) (by first | assumption | (conv => lhs; simp only [List.getElem?_toArray, List.getElem?_cons_succ, List.getElem?_cons_zero]))) ?_
    refine L_run (.yes 3 true rfl rfl) rfl rfl (r_eql rfl rfl) ?_
    refine L_run (.plain rfl) rfl rfl (r_pick_t (v := .bool _) rfl rfl) ?_
    refine L_run (.plain rfl) rfl rfl (r_move (v := .bool _) rfl) ?_
    refine L_case (d := 13) rfl (fun h13 => ?_) (fun h13 => ?_)
    · refine L_run (.yes 8 true rfl rfl) rfl rfl (r_fieldb Tryd.underlying24 rfl (show _ = some 1 from rfl) rfl rfl (show _ = 1 from rfl)) ?_
      refine L_run (.yes 8 true rfl rfl) rfl rfl (r_loadb rfl rfl (by (exact Bk.to (by assumption) (by (repeat (first | exact Sm.refl _ _ | (refine Sm.stepT (by assumption) (by intro hlt hsm; exact not_no) ?_)))))) (by first | assumption | (conv => lhs; simp only [List.getElem?_toArray, List.getElem?_cons_succ, List.getElem?_cons_zero]))) ?_
      refine L_run (.yes 8 true rfl rfl) rfl rfl (r_fieldb Tryd.underlying24 rfl (show _ = some 1 from rfl) rfl rfl (show _ = 1 from rfl)) ?_
      refine L_run (.yes 8 true rfl rfl) rfl rfl (r_loadb rfl rfl (by (exact Bk.to (by assumption) (by (repeat (first | exact Sm.refl _ _ | (refine Sm.stepT (by assumption) (by intro hlt hsm; exact not_no) ?_)))))) (by first | assumption | (conv => lhs; simp only [List.getElem?_toArray, List.getElem?_cons_succ, List.getElem?_cons_zero]))) ?_
      refine L_run (.yes 8 true rfl rfl) rfl rfl (r_eql rfl rfl) ?_
      refine L_run (.plain rfl) rfl rfl (r_pick_t (v := .bool _) rfl rfl) ?_
      refine L_run (.plain rfl) rfl rfl (r_move (v := .bool _) rfl) ?_
      refine L_case (d := 20) rfl (fun h20 => ?_) (fun h20 => ?_)
      · refine L_run (.yes 15 true rfl rfl) rfl rfl (r_fieldb Tryd.underlying24 rfl (show _ = some 1 from rfl) rfl rfl (show _ = 2 from rfl)) ?_
        refine L_run (.yes 15 true rfl rfl) rfl rfl (r_loadb rfl rfl (by (exact Bk.to (by assumption) (by (repeat (first | exact Sm.refl _ _ | (refine Sm.stepT (by assumption) (by intro hlt hsm; exact not_no) ?_)))))) (by first | assumption | (conv => lhs; simp only [List.getElem?_toArray, List.getElem?_cons_succ, List.getElem?_cons_zero]))) ?_
        refine L_run (.yes 15 true rfl rfl) rfl rfl (r_fieldb Tryd.underlying24 rfl (show _ = some 1 from rfl) rfl rfl (show _ = 2 from rfl)) ?_
        refine L_run (.yes 15 true rfl rfl) rfl rfl (r_loadb rfl rfl (by (exact Bk.to (by assumption) (by (repeat (first | exact Sm.refl _ _ | (refine Sm.stepT (by assumption) (by intro hlt hsm; exact not_no) ?_)))))) (by first | assumption | (conv => lhs; simp only [List.getElem?_toArray, List.getElem?_cons_succ, List.getElem?_cons_zero]))) ?_
        refine L_run (.yes 15 true rfl rfl) rfl rfl (r_eql rfl rfl) ?_
        refine L_run (.plain rfl) rfl rfl (r_pick_t (v := .bool _) rfl rfl) ?_
        refine L_run (.plain rfl) rfl rfl (r_assign (v := .bool _) rfl) ?_
        refine L_nil ?_
        refine W_ret ?_
        refine ret1 (v := .bool _) rfl rfl ?_
        refine ⟨?_, by (repeat (first | exact Ch.refl _ | assumption | (refine Ch.fresh ?_ (by assumption) (by intro i hi he; exact he))))⟩
        first
        | exact congrArg Value.bool (decide_eq_decide.2 (by omega))
        | exact congrArg Value.bool (decide_eq_false (by omega)).symm
        | exact congrArg Value.bool (decide_eq_true (by omega)).symm
      · refine L_pass rfl rfl rfl rfl rfl ?_
        refine L_pass rfl rfl rfl rfl rfl ?_
        refine L_pass rfl rfl rfl rfl rfl ?_
        refine L_pass rfl rfl rfl rfl rfl ?_
        refine L_pass rfl rfl rfl rfl rfl ?_
        refine L_run (.plain rfl) rfl rfl (r_pick_f (v := .bool _) rfl rfl) ?_
        refine L_run (.plain rfl) rfl rfl (r_assign (v := .bool _) rfl) ?_
        refine L_nil ?_
        refine W_ret ?_
        refine ret1 (v := .bool _) rfl rfl ?_
        refine ⟨?_, by (repeat (first | exact Ch.refl _ | assumption | (refine Ch.fresh ?_ (by assumption) (by intro i hi he; exact he))))⟩
        first
        | exact congrArg Value.bool (decide_eq_decide.2 (by omega))
        | exact congrArg Value.bool (decide_eq_false (by omega)).symm
        | exact congrArg Value.bool (decide_eq_true (by omega)).symm
    · refine L_pass rfl rfl rfl rfl rfl ?_
      refine L_pass rfl rfl rfl rfl rfl ?_
      refine L_pass rfl rfl rfl rfl rfl ?_
      refine L_pass rfl rfl rfl rfl rfl ?_
      refine L_pass rfl rfl rfl rfl rfl ?_
      refine L_run (.plain rfl) rfl rfl (r_pick_f (v := .bool _) rfl rfl) ?_
      refine L_run (.plain rfl) rfl rfl (r_move (v := .bool _) rfl) ?_
      refine L_pass rfl rfl rfl rfl rfl ?_
      refine L_pass rfl rfl rfl rfl rfl ?_
      refine L_pass rfl rfl rfl rfl rfl ?_
      refine L_pass rfl rfl rfl rfl rfl ?_
      refine L_pass rfl rfl rfl rfl rfl ?_
      refine L_run (.plain rfl) rfl rfl (r_pick_f (v := .bool _) rfl rfl) ?_
      refine L_run (.plain rfl) rfl rfl (r_assign (v := .bool _) rfl) ?_
      refine L_nil ?_
      refine W_ret ?_
      refine ret1 (v := .bool _) rfl rfl ?_
      refine ⟨?_, by (repeat (first | exact Ch.refl _ | assumption | (refine Ch.fresh ?_ (by assumption) (by intro i hi he; exact he))))⟩
      first
      | exact congrArg Value.bool (decide_eq_decide.2 (by omega))
      | exact congrArg Value.bool (decide_eq_false (by omega)).symm
      | exact congrArg Value.bool (decide_eq_true (by omega)).symm
  · refine L_pass rfl rfl rfl rfl rfl ?_
    refine L_pass rfl rfl rfl rfl rfl ?_
    refine L_pass rfl rfl rfl rfl rfl ?_
    refine L_run (.plain rfl) rfl rfl (r_pick_f (v := .bool _) rfl rfl) ?_
    refine L_run (.plain rfl) rfl rfl (r_move (v := .bool _) rfl) ?_
    refine L_pass rfl rfl rfl rfl rfl ?_
    refine L_pass rfl rfl rfl rfl rfl ?_
    refine L_pass rfl rfl rfl rfl rfl ?_
    refine L_pass rfl rfl rfl rfl rfl ?_
    refine L_pass rfl rfl rfl rfl rfl ?_
    refine L_run (.plain rfl) rfl rfl (r_pick_f (v := .bool _) rfl rfl) ?_
    refine L_run (.plain rfl) rfl rfl (r_move (v := .bool _) rfl) ?_
    refine L_pass rfl rfl rfl rfl rfl ?_
    refine L_pass rfl rfl rfl rfl rfl ?_
    refine L_pass rfl rfl rfl rfl rfl ?_
    refine L_pass rfl rfl rfl rfl rfl ?_
    refine L_pass rfl rfl rfl rfl rfl ?_
    refine L_run (.plain rfl) rfl rfl (r_pick_f (v := .bool _) rfl rfl) ?_
    refine L_run (.plain rfl) rfl rfl (r_assign (v := .bool _) rfl) ?_
    refine L_nil ?_
    refine W_ret ?_
    refine ret1 (v := .bool _) rfl rfl ?_
    refine ⟨?_, by (repeat (first | exact Ch.refl _ | assumption | (refine Ch.fresh ?_ (by assumption) (by intro i hi he; exact he))))⟩
    first
    | exact congrArg Value.bool (decide_eq_decide.2 (by omega))
    | exact congrArg Value.bool (decide_eq_false (by omega)).symm
    | exact congrArg Value.bool (decide_eq_true (by omega)).symm
theorem uc1 {a : Int} (ha : 0 ≤ a) : [Value.int .u64 a] = ucells [a.toNat] := by
  show _ = [Value.int .u64 ((a.toNat : Nat) : Int)]
  rw [Int.toNat_of_nonneg ha]
theorem uc2 {a b : Int} (ha : 0 ≤ a) (hb : 0 ≤ b) : [Value.int .u64 a, Value.int .u64 b] = ucells [a.toNat, b.toNat] := by
  show _ = [Value.int .u64 ((a.toNat : Nat) : Int), Value.int .u64 ((b.toNat : Nat) : Int)]
  rw [Int.toNat_of_nonneg ha, Int.toNat_of_nonneg hb]
theorem uc3 {a b c : Int} (ha : 0 ≤ a) (hb : 0 ≤ b) (hc : 0 ≤ c) : [Value.int .u64 a, Value.int .u64 b, Value.int .u64 c] = ucells [a.toNat, b.toNat, c.toNat] := by
  show _ = [Value.int .u64 ((a.toNat : Nat) : Int), Value.int .u64 ((b.toNat : Nat) : Int), Value.int .u64 ((c.toNat : Nat) : Int)]
  rw [Int.toNat_of_nonneg ha, Int.toNat_of_nonneg hb, Int.toNat_of_nonneg hc]
def headL (m : Msg) : List UInt8 := varL m.kind.toNat ++ (varL m.life.toNat ++ varL m.seq.toNat)
theorem head_eq (m : Msg) : ([] : List UInt8) ++ [m.kind.toNat, m.life.toNat, m.seq.toNat].flatMap varL = headL m := by simp [headL]
theorem mid0_eq (m : Msg) (A : List UInt8) (h : m.kind = 0) : (A ++ [m.below.toNat, m.object.toNat].flatMap varL) ++ [m.method].flatMap textL = A ++ midL m := by
  unfold midL
  rw [if_pos h]
  simp
theorem mid1_eq (m : Msg) (A : List UInt8) (h : ¬ m.kind = 0) : A ++ [m.way.toNat].flatMap varL = A ++ midL m := by
  unfold midL
  rw [if_neg h]
  simp
theorem putM_eq (m : Msg) : (headL m ++ midL m ++ [m.body.size].flatMap varL) ++ bs m.body = putM m := by
  unfold putM headL textL
  simp
theorem var_le (a : Int) (h : a ≤ 18446744073709551615) : (varL a.toNat).length ≤ 10 := varL_ten (by omega)
theorem headL_le {m : Msg} (hok : m.ok) (hk : m.kind = 0 ∨ m.kind = 1) : (headL m).length ≤ 30 := by
  have h1 := var_le m.kind (by omega)
  have h2 := var_le m.life hok.life.2
  have h3 := var_le m.seq hok.seq.2
  unfold headL
  simp only [List.length_append]
  omega
theorem midL_le {m : Msg} (hok : m.ok) (hw : m.way ≤ 2) (hs : m.method.size ≤ 32) : (midL m).length ≤ 62 := by
  have h1 := var_le m.below hok.below.2
  have h2 := var_le m.object hok.object.2
  have h3 := var_le m.way (by omega)
  have h4 := varL_ten (v := m.method.size) (by omega)
  unfold midL textL
  split
  · simp only [List.length_append, bs_length]; omega
  · omega
/-- What a message that may be is. -/
theorem may {m : Msg} (hc : checkC m = 0) : m.body.size ≤ 8192 ∧ m.method.size ≤ 32 ∧ 0 ≤ m.way ∧ m.way ≤ 2 ∧ (m.kind = 0 ∨ m.kind = 1) := by
  obtain ⟨hb, _, _, ⟨h1, _, _, h2, _, h3⟩ | ⟨h1, _, _, h2, h3⟩⟩ := check_right hc
  · exact ⟨hb, h2.2.1, by omega, by omega, .inl h1⟩
  · refine ⟨hb, ?_, h3.1, h3.2, .inr h1⟩
    rw [h2]; decide
theorem putM_le {m : Msg} (hok : m.ok) (hc : checkC m = 0) : (putM m).length ≤ 8300 := by
  obtain ⟨hb, hs, hw0, hw, hk⟩ := may hc
  have h1 := headL_le hok hk
  have h2 := midL_le hok hw hs
  have h3 := varL_ten (v := m.body.size) (by omega)
  rw [← putM_eq]
  simp only [List.length_append, bs_length, List.flatMap_singleton]
  omega
theorem WrAt.down {base base' : Nat} {w : World} {b : Nat} {A : List UInt8} (h : WrAt base w b A) (hb : base' ≤ base) : WrAt base' w b A := by
  obtain ⟨v, h1, h2, h3⟩ := h
  exact ⟨v, h1, Nat.le_trans hb h2, Ow.mono h3 hb⟩
theorem mput_bad (m : Msg) (w0 : World) (hc : ¬ checkC m = 0) : Does Tryd.prog 10 #[m.v] w0 (fun r w' => r = .tuple #[.slice none 0 0, .int .i64 (checkC m)] ∧ Nw w0 w') := by
  refine fn_of (n := 58) (args := [m.v]) Tryd.func10 rfl rfl rfl ?_
  refine W_seq ?_
  refine W_region ?_
  refine L_new (.plain rfl) rfl rfl (r_boxa rfl) (fun w1 b1 hb1 eb1 hs1 c1 => ?_)
  refine L_run (.plain rfl) rfl rfl (r_assign (by conv => lhs; whnf)) ?_
  refine L_run (.plain rfl) rfl rfl (r_assign (v := .int _ _) rfl) ?_
  refine L_nil ?_
  refine W_seq ?_
  refine W_seq ?_
  refine W_region ?_
  refine L_run (.plain rfl) rfl rfl (r_loadrow Tryd.underlying24 rfl rfl (by (exact Bk.to (by assumption) (by (repeat (first | exact Sm.refl _ _ | (refine Sm.stepT (by assumption) (by intro hlt hsm; exact not_no) ?_)))))) (by first | rfl | assumption)) ?_
  refine L_call (.plain rfl) rfl rfl (r_call Tryd.func12 rfl rfl rfl (by rfl)) (check_walk m _) ?_
  rintro v7 w2 ⟨rfl, c2⟩
  have hz2 := c2.size
  refine L_run (.plain rfl) rfl rfl (r_assign (v := .int _ _) rfl) ?_
  refine L_nil ?_
  refine W_seq ?_
  refine W_region ?_
  refine L_run (.plain rfl) rfl rfl (r_move (v := .int _ _) rfl) ?_
  refine L_run (.plain rfl) rfl rfl (r_neq rfl rfl) ?_
  refine L_as (v := .bool _) (v' := .bool true) 9 rfl (dec_t (by exact hc)).symm ?_
  refine L_nil ?_
  refine W_true rfl ?_
  refine W_seq ?_
  refine W_region ?_
  refine L_run (.plain rfl) rfl rfl (r_move (v := .int _ _) rfl) ?_
  refine L_run (.plain rfl) rfl rfl (r_assign (by conv => lhs; whnf)) ?_
  refine L_run (.plain rfl) rfl rfl (r_assign (v := .int _ _) rfl) ?_
  refine L_nil ?_
  refine W_ret ?_
  refine ret2 (v := .int _ _) rfl (by conv => lhs; whnf) rfl ?_
  exact ⟨rfl, by (repeat (first | exact Ch.refl _ | assumption | (refine Ch.fresh ?_ (by assumption) (by intro i hi he; exact he))))⟩
set_option maxHeartbeats 1000000 in
set_option maxRecDepth 100000 in
theorem mput_good (m : Msg) (w0 : World) (hok : m.ok) (hc : checkC m = 0) : Does Tryd.prog 10 #[m.v] w0 (fun r w' => ∃ v', r = .tuple #[v', .int .i64 0] ∧ w'.ownsRow w0.heap.size 5 1 v' ((putM m).length + 4) ((put (putM m)).map b8) ∧ Nw w0 w') := by
  obtain ⟨hb, hs, hw0, hw, hk⟩ := may hc
  obtain ⟨⟨a1, a2⟩, ⟨e1, e2⟩, ⟨f1, f2⟩, ⟨g1, g2⟩⟩ := id hok
  have hle1 := headL_le hok hk
  have hle2 := midL_le hok hw hs
  have hle3 := varL_ten (v := m.body.size) (by omega)
  have hkk : 0 ≤ m.kind ∧ m.kind ≤ 1 := by omega
  refine fn_of (n := 58) (args := [m.v]) Tryd.func10 rfl rfl rfl ?_
  refine W_seq ?_
  refine W_region ?_
  refine L_new (.plain rfl) rfl rfl (r_boxa rfl) (fun w1 b1 hb1 eb1 hs1 c1 => ?_)
  refine L_run (.plain rfl) rfl rfl (r_assign (by conv => lhs; whnf)) ?_
  refine L_run (.plain rfl) rfl rfl (r_assign (v := .int _ _) rfl) ?_
  refine L_nil ?_
  refine W_seq ?_
  refine W_seq ?_
  refine W_region ?_
  refine L_run (.plain rfl) rfl rfl (r_loadrow Tryd.underlying24 rfl rfl (by (exact Bk.to (by assumption) (by (repeat (first | exact Sm.refl _ _ | (refine Sm.stepT (by assumption) (by intro hlt hsm; first | exact not_no | (intro he; have he2 : _ = some _ := he; have := ow_base (by assumption) he2; omega) | exact bk_not (by assumption) hsm rfl) ?_)))))) (by first | rfl | assumption)) ?_
  refine L_call (.plain rfl) rfl rfl (r_call Tryd.func12 rfl rfl rfl (by rfl)) (check_walk m _) ?_
  rintro v7 w2 ⟨rfl, c2⟩
  have hz2 := c2.size
  rw [hc]
  refine L_run (.plain rfl) rfl rfl (r_assign (v := .int _ _) rfl) ?_
  refine L_nil ?_
  refine W_seq ?_
  refine W_region ?_
  refine L_run (.plain rfl) rfl rfl (r_move (v := .int _ _) rfl) ?_
  refine L_run (.plain rfl) rfl rfl (r_neq rfl rfl) ?_
  refine L_as (v := .bool _) (v' := .bool false) 9 rfl (dec_f (by simp)).symm ?_
  refine L_nil ?_
  refine W_false rfl ?_
  refine W_skip ?_
  refine W_seq ?_
  refine W_region ?_
  refine L_call (.plain rfl) rfl rfl (r_call Tryd.func18 rfl rfl rfl (by rfl)) (write_walk _) ?_
  rintro v11 w3 ⟨bw, rfl, hWz, c3⟩
  have hz3 := c3.size
  have hlo0 := hWz.lo
  have hW0 := WrAt.down hWz (by omega : w0.heap.size ≤ _)
  refine L_run (.plain rfl) rfl rfl (r_assign (v := .pointer _) rfl) ?_
  refine L_nil ?_
  refine W_seq ?_
  refine W_region ?_
  refine L_run (.plain rfl) rfl rfl (r_move (v := .pointer _) rfl) ?_
  refine L_run (.plain rfl) rfl rfl (r_fieldb Tryd.underlying24 rfl (show _ = some 1 from rfl) rfl rfl (show _ = 0 from rfl)) ?_
  refine L_run (.plain rfl) rfl rfl (r_loadb rfl rfl (by (exact Bk.to (by assumption) (by (repeat (first | exact Sm.refl _ _ | (refine Sm.stepT (by assumption) (by intro hlt hsm; first | exact not_no | (intro he; have he2 : _ = some _ := he; have := ow_base (by assumption) he2; omega) | exact bk_not (by assumption) hsm rfl) ?_)))))) (by first | assumption | (conv => lhs; simp only [List.getElem?_toArray, List.getElem?_cons_succ, List.getElem?_cons_zero]))) ?_
  refine L_run (.plain rfl) rfl rfl (r_conv Tryd.underlying3 Tryd.underlying22 rfl (by first | exact wr_u64 (by omega) | rfl)) ?_
  refine L_run (.plain rfl) rfl rfl (r_fieldb Tryd.underlying24 rfl (show _ = some 1 from rfl) rfl rfl (show _ = 1 from rfl)) ?_
  refine L_run (.plain rfl) rfl rfl (r_loadb rfl rfl (by (exact Bk.to (by assumption) (by (repeat (first | exact Sm.refl _ _ | (refine Sm.stepT (by assumption) (by intro hlt hsm; first | exact not_no | (intro he; have he2 : _ = some _ := he; have := ow_base (by assumption) he2; omega) | exact bk_not (by assumption) hsm rfl) ?_)))))) (by first | assumption | (conv => lhs; simp only [List.getElem?_toArray, List.getElem?_cons_succ, List.getElem?_cons_zero]))) ?_
  refine L_run (.plain rfl) rfl rfl (r_fieldb Tryd.underlying24 rfl (show _ = some 1 from rfl) rfl rfl (show _ = 2 from rfl)) ?_
  refine L_run (.plain rfl) rfl rfl (r_loadb rfl rfl (by (exact Bk.to (by assumption) (by (repeat (first | exact Sm.refl _ _ | (refine Sm.stepT (by assumption) (by intro hlt hsm; first | exact not_no | (intro he; have he2 : _ = some _ := he; have := ow_base (by assumption) he2; omega) | exact bk_not (by assumption) hsm rfl) ?_)))))) (by first | assumption | (conv => lhs; simp only [List.getElem?_toArray, List.getElem?_cons_succ, List.getElem?_cons_zero]))) ?_
  refine L_build1o [.int _ _, .int _ _, .int _ _] Tryd.underlying63 rfl rfl rfl (.plain rfl) rfl (by rfl) (by rfl) (by rfl) (fun v20 w4 ho20 eb4 hs4 c4 => ?_)
  refine L_call (.plain rfl) rfl rfl (r_call Tryd.func19 rfl rfl rfl (by rfl)) (wnum_walk _ _ bw [] _ [m.kind.toNat, m.life.toNat, m.seq.toNat] _ (hW0.nw (by (repeat (first | exact Ch.refl _ | assumption | (refine Ch.fresh ?_ (by assumption) (by intro i hi he; first | exact he | (exfalso; have he2 : _ = some i := he; have := ow_base (by assumption) he2; omega) | (exfalso; have := he.1; omega))))))) (by have h := ow_lit ho20; rw [uc3 hkk.1 a1 e1] at h; exact h) (by intro x hx; simp at hx; omega) (by show 0 + 10 * 3 ≤ _; omega) (by omega)) ?_
  rintro v21 w5 ⟨rfl, hW1, c5⟩
  have hz5 := c5.size
  rw [head_eq] at hW1
  refine L_nil ?_
  refine W_seq ?_
  refine W_seq ?_
  refine W_region ?_
  refine L_run (.plain rfl) rfl rfl (r_fieldb Tryd.underlying24 rfl (show _ = some 1 from rfl) rfl rfl (show _ = 0 from rfl)) ?_
  refine L_run (.plain rfl) rfl rfl (r_loadb rfl rfl (by (exact Bk.to (by assumption) (by (repeat (first | exact Sm.refl _ _ | (refine Sm.stepT (by assumption) (by intro hlt hsm; first | exact not_no | (intro he; have he2 : _ = some _ := he; have := ow_base (by assumption) he2; omega) | exact bk_not (by assumption) hsm rfl) ?_)))))) (by first | assumption | (conv => lhs; simp only [List.getElem?_toArray, List.getElem?_cons_succ, List.getElem?_cons_zero]))) ?_
  refine L_run (.plain rfl) rfl rfl (r_eql rfl rfl) ?_
  refine L_nil ?_
  refine W_endF [1, 5] (fun f W => True ∧ (WrAt w0.heap.size W bw (headL m ++ midL m) ∧ Bk W b1 #[.int .i64 m.kind, .int .u64 m.life, .int .u64 m.seq, .int .u64 m.below, .int .u64 m.object, .string m.method, .int .i64 m.way, .string m.body] 24 ∧ Nw w0 W)) ?_ ?_
  · refine W_if rfl (fun h24 => ?_) (fun h24 => ?_)
    · refine W_seq ?_
      refine W_region ?_
      refine L_run (.plain rfl) rfl rfl (r_move (v := .pointer _) rfl) ?_
      refine L_run (.plain rfl) rfl rfl (r_fieldb Tryd.underlying24 rfl (show _ = some 1 from rfl) rfl rfl (show _ = 3 from rfl)) ?_
      refine L_run (.plain rfl) rfl rfl (r_loadb rfl rfl (by (exact Bk.to (by assumption) (by (repeat (first | exact Sm.refl _ _ | (refine Sm.stepT (by assumption) (by intro hlt hsm; first | exact not_no | (intro he; have he2 : _ = some _ := he; have := ow_base (by assumption) he2; omega) | exact bk_not (by assumption) hsm rfl) ?_)))))) (by first | assumption | (conv => lhs; simp only [List.getElem?_toArray, List.getElem?_cons_succ, List.getElem?_cons_zero]))) ?_
      refine L_run (.plain rfl) rfl rfl (r_fieldb Tryd.underlying24 rfl (show _ = some 1 from rfl) rfl rfl (show _ = 4 from rfl)) ?_
      refine L_run (.plain rfl) rfl rfl (r_loadb rfl rfl (by (exact Bk.to (by assumption) (by (repeat (first | exact Sm.refl _ _ | (refine Sm.stepT (by assumption) (by intro hlt hsm; first | exact not_no | (intro he; have he2 : _ = some _ := he; have := ow_base (by assumption) he2; omega) | exact bk_not (by assumption) hsm rfl) ?_)))))) (by first | assumption | (conv => lhs; simp only [List.getElem?_toArray, List.getElem?_cons_succ, List.getElem?_cons_zero]))) ?_
      refine L_build1o [.int _ _, .int _ _] Tryd.underlying63 rfl rfl rfl (.plain rfl) rfl (by rfl) (by rfl) (by rfl) (fun v30 w6 ho30 eb6 hs6 c6 => ?_)
      refine L_call (.plain rfl) rfl rfl (r_call Tryd.func19 rfl rfl rfl (by rfl)) (wnum_walk _ _ bw (headL m) _ [m.below.toNat, m.object.toNat] _ (hW1.nw (by (repeat (first | exact Ch.refl _ | assumption | (refine Ch.fresh ?_ (by assumption) (by intro i hi he; first | exact he | (exfalso; have he2 : _ = some i := he; have := ow_base (by assumption) he2; omega) | (exfalso; have := he.1; omega))))))) (by have h := ow_lit ho30; rw [uc2 f1 g1] at h; exact h) (by intro x hx; simp at hx; omega) (by show _ + 10 * 2 ≤ _; omega) (by omega)) ?_
      rintro v31 w7 ⟨rfl, hW2, c7⟩
      have hz7 := c7.size
      refine L_nil ?_
      refine W_region ?_
      refine L_run (.plain rfl) rfl rfl (r_move (v := .pointer _) rfl) ?_
      refine L_run (.plain rfl) rfl rfl (r_fieldb Tryd.underlying24 rfl (show _ = some 1 from rfl) rfl rfl (show _ = 5 from rfl)) ?_
      refine L_run (.plain rfl) rfl rfl (r_loadb rfl rfl (by (exact Bk.to (by assumption) (by (repeat (first | exact Sm.refl _ _ | (refine Sm.stepT (by assumption) (by intro hlt hsm; first | exact not_no | (intro he; have he2 : _ = some _ := he; have := ow_base (by assumption) he2; omega) | exact bk_not (by assumption) hsm rfl) ?_)))))) (by first | assumption | (conv => lhs; simp only [List.getElem?_toArray, List.getElem?_cons_succ, List.getElem?_cons_zero]))) ?_
      refine L_build1o [.string _] Tryd.underlying65 rfl rfl rfl (.plain rfl) rfl (by rfl) (by rfl) (by rfl) (fun v35 w8 ho35 eb8 hs8 c8 => ?_)
      refine L_call (.plain rfl) rfl rfl (r_call Tryd.func20 rfl rfl rfl (by rfl)) (wtext_walk _ _ bw _ _ [m.method] _ (hW2.nw (by (repeat (first | exact Ch.refl _ | assumption | (refine Ch.fresh ?_ (by assumption) (by intro i hi he; first | exact he | (exfalso; have he2 : _ = some i := he; have := ow_base (by assumption) he2; omega) | (exfalso; have := he.1; omega))))))) (ow_lit ho35) (by intro x hx; rw [List.mem_singleton] at hx; rw [hx]; omega) (by show 1 ≤ _; omega) (by rw [List.length_append]; have := var_le m.below f2; have := var_le m.object g2; simp; omega) (by omega)) ?_
      rintro v36 w9 ⟨rfl, hW3, c9⟩
      have hz9 := c9.size
      refine L_nil ?_
      refine ⟨⟨rfl, rfl, trivial⟩, trivial, ?_⟩
      first
      | exact ⟨by rw [← mid0_eq m _ h24]; exact hW3.nw (by (repeat (first | exact Ch.refl _ | assumption | (refine Ch.fresh ?_ (by assumption) (by intro i hi he; first | exact he | (exfalso; have he2 : _ = some i := he; have := ow_base (by assumption) he2; omega) | (exfalso; have := he.1; omega)))))), by (exact Bk.to (by assumption) (by (repeat (first | exact Sm.refl _ _ | (refine Sm.stepT (by assumption) (by intro hlt hsm; first | exact not_no | (intro he; have he2 : _ = some _ := he; have := ow_base (by assumption) he2; omega) | exact bk_not (by assumption) hsm rfl) ?_))))), by (repeat (first | exact Ch.refl _ | assumption | (refine Ch.fresh ?_ (by assumption) (by intro i hi he; first | exact he | (exfalso; have he2 : _ = some i := he; have := ow_base (by assumption) he2; omega) | (exfalso; have := he.1; omega)))))⟩
      | exact ⟨by rw [← mid1_eq m _ h24]; exact hW3.nw (by (repeat (first | exact Ch.refl _ | assumption | (refine Ch.fresh ?_ (by assumption) (by intro i hi he; first | exact he | (exfalso; have he2 : _ = some i := he; have := ow_base (by assumption) he2; omega) | (exfalso; have := he.1; omega)))))), by (exact Bk.to (by assumption) (by (repeat (first | exact Sm.refl _ _ | (refine Sm.stepT (by assumption) (by intro hlt hsm; first | exact not_no | (intro he; have he2 : _ = some _ := he; have := ow_base (by assumption) he2; omega) | exact bk_not (by assumption) hsm rfl) ?_))))), by (repeat (first | exact Ch.refl _ | assumption | (refine Ch.fresh ?_ (by assumption) (by intro i hi he; first | exact he | (exfalso; have he2 : _ = some i := he; have := ow_base (by assumption) he2; omega) | (exfalso; have := he.1; omega)))))⟩
    · refine W_region ?_
      refine L_run (.plain rfl) rfl rfl (r_move (v := .pointer _) rfl) ?_
      refine L_run (.plain rfl) rfl rfl (r_fieldb Tryd.underlying24 rfl (show _ = some 1 from rfl) rfl rfl (show _ = 6 from rfl)) ?_
      refine L_run (.plain rfl) rfl rfl (r_loadb rfl rfl (by (exact Bk.to (by assumption) (by (repeat (first | exact Sm.refl _ _ | (refine Sm.stepT (by assumption) (by intro hlt hsm; first | exact not_no | (intro he; have he2 : _ = some _ := he; have := ow_base (by assumption) he2; omega) | exact bk_not (by assumption) hsm rfl) ?_)))))) (by first | assumption | (conv => lhs; simp only [List.getElem?_toArray, List.getElem?_cons_succ, List.getElem?_cons_zero]))) ?_
      refine L_run (.plain rfl) rfl rfl (r_conv Tryd.underlying3 Tryd.underlying22 rfl (by first | exact wr_u64 (by omega) | rfl)) ?_
      refine L_build1o [.int _ _] Tryd.underlying63 rfl rfl rfl (.plain rfl) rfl (by rfl) (by rfl) (by rfl) (fun v41 w10 ho41 eb10 hs10 c10 => ?_)
      refine L_call (.plain rfl) rfl rfl (r_call Tryd.func19 rfl rfl rfl (by rfl)) (wnum_walk _ _ bw (headL m) _ [m.way.toNat] _ (hW1.nw (by (repeat (first | exact Ch.refl _ | assumption | (refine Ch.fresh ?_ (by assumption) (by intro i hi he; first | exact he | (exfalso; have he2 : _ = some i := he; have := ow_base (by assumption) he2; omega) | (exfalso; have := he.1; omega))))))) (by have h := ow_lit ho41; rw [uc1 hw0] at h; exact h) (by intro x hx; simp at hx; omega) (by show _ + 10 * 1 ≤ _; omega) (by omega)) ?_
      rintro v42 w11 ⟨rfl, hW3, c11⟩
      have hz11 := c11.size
      refine L_nil ?_
      refine ⟨⟨rfl, rfl, trivial⟩, trivial, ?_⟩
      first
      | exact ⟨by rw [← mid0_eq m _ h24]; exact hW3.nw (by (repeat (first | exact Ch.refl _ | assumption | (refine Ch.fresh ?_ (by assumption) (by intro i hi he; first | exact he | (exfalso; have he2 : _ = some i := he; have := ow_base (by assumption) he2; omega) | (exfalso; have := he.1; omega)))))), by (exact Bk.to (by assumption) (by (repeat (first | exact Sm.refl _ _ | (refine Sm.stepT (by assumption) (by intro hlt hsm; first | exact not_no | (intro he; have he2 : _ = some _ := he; have := ow_base (by assumption) he2; omega) | exact bk_not (by assumption) hsm rfl) ?_))))), by (repeat (first | exact Ch.refl _ | assumption | (refine Ch.fresh ?_ (by assumption) (by intro i hi he; first | exact he | (exfalso; have he2 : _ = some i := he; have := ow_base (by assumption) he2; omega) | (exfalso; have := he.1; omega)))))⟩
      | exact ⟨by rw [← mid1_eq m _ h24]; exact hW3.nw (by (repeat (first | exact Ch.refl _ | assumption | (refine Ch.fresh ?_ (by assumption) (by intro i hi he; first | exact he | (exfalso; have he2 : _ = some i := he; have := ow_base (by assumption) he2; omega) | (exfalso; have := he.1; omega)))))), by (exact Bk.to (by assumption) (by (repeat (first | exact Sm.refl _ _ | (refine Sm.stepT (by assumption) (by intro hlt hsm; first | exact not_no | (intro he; have he2 : _ = some _ := he; have := ow_base (by assumption) he2; omega) | exact bk_not (by assumption) hsm rfl) ?_))))), by (repeat (first | exact Ch.refl _ | assumption | (refine Ch.fresh ?_ (by assumption) (by intro i hi he; first | exact he | (exfalso; have he2 : _ = some i := he; have := ow_base (by assumption) he2; omega) | (exfalso; have := he.1; omega)))))⟩
  rintro gct24 w12 ⟨-, hCt24⟩
  obtain ⟨hW4, hbm, hnw⟩ := hCt24
  have hz := hnw.size
  refine W_seq ?_
  refine W_region ?_
  refine L_run (.plain rfl) rfl rfl (r_move (v := .pointer _) rfl) ?_
  refine L_run (.plain rfl) rfl rfl (r_fieldb Tryd.underlying24 rfl (show _ = some 1 from rfl) rfl rfl (show _ = 7 from rfl)) ?_
  refine L_run (.plain rfl) rfl rfl (r_loadb rfl rfl (by (exact Bk.to (by assumption) (by (repeat (first | exact Sm.refl _ _ | (refine Sm.stepT (by assumption) (by intro hlt hsm; first | exact not_no | (intro he; have he2 : _ = some _ := he; have := ow_base (by assumption) he2; omega) | exact bk_not (by assumption) hsm rfl) ?_)))))) (by first | assumption | (conv => lhs; simp only [List.getElem?_toArray, List.getElem?_cons_succ, List.getElem?_cons_zero]))) ?_
  refine L_run (.plain rfl) rfl rfl (r_lens Tryd.underlying9 rfl) ?_
  refine L_run (.plain rfl) rfl rfl (r_conv Tryd.underlying3 Tryd.underlying22 rfl (by first | exact wr_u64 (by omega) | rfl)) ?_
  refine L_build1o [.int _ _] Tryd.underlying63 rfl rfl rfl (.plain rfl) rfl (by rfl) (by rfl) (by rfl) (fun v48 w13 ho48 eb13 hs13 c13 => ?_)
  refine L_call (.plain rfl) rfl rfl (r_call Tryd.func19 rfl rfl rfl (by rfl)) (wnum_walk _ _ bw _ _ [m.body.size] _ (hW4.nw (by (repeat (first | exact Ch.refl _ | assumption | (refine Ch.fresh ?_ (by assumption) (by intro i hi he; first | exact he | (exfalso; have he2 : _ = some i := he; have := ow_base (by assumption) he2; omega) | (exfalso; have := he.1; omega))))))) (ow_lit ho48) (by intro x hx; rw [List.mem_singleton] at hx; omega) (by rw [List.length_append]; show _ + 10 * 1 ≤ _; omega) (by omega)) ?_
  rintro v49 w14 ⟨rfl, hW5, c14⟩
  have hz14 := c14.size
  refine L_nil ?_
  refine W_seq ?_
  refine W_draw (fun W => Bk W b1 #[.int .i64 m.kind, .int .u64 m.life, .int .u64 m.seq, .int .u64 m.below, .int .u64 m.object, .string m.method, .int .i64 m.way, .string m.body] 24) 10 (m := 10) (by kernel_rfl) rfl (fun w15 c15 hs15 => ?_)
  refine held (by (exact Bk.to (by assumption) (by (repeat (first | exact Sm.refl _ _ | (refine Sm.stepT (by assumption) (by intro hlt hsm; first | exact not_no | (intro he; have he2 : _ = some _ := he; have := ow_base (by assumption) he2; omega) | exact bk_not (by assumption) hsm rfl) ?_)))))) (fun hS => ?_)
  refine D_take 0 rfl (by kernel_rfl) (by kernel_rfl) (by kernel_rfl) (by kernel_rfl) (.plain rfl) rfl rfl (by assumption) (fun W hW => r_move (v := .pointer _) rfl) ?_
  refine D_take 2 rfl (by kernel_rfl) (by kernel_rfl) (by kernel_rfl) (by kernel_rfl) (.plain rfl) rfl rfl (by assumption) (fun W hW => r_fieldb Tryd.underlying24 rfl (show _ = some 1 from rfl) rfl rfl (show _ = 7 from rfl)) ?_
  refine D_take 3 rfl (by kernel_rfl) (by kernel_rfl) (by kernel_rfl) (by kernel_rfl) (.plain rfl) rfl rfl (by assumption) (fun W hW => r_loadb rfl rfl (by exact hW) (by first | assumption | (conv => lhs; simp only [List.getElem?_toArray, List.getElem?_cons_succ, List.getElem?_cons_zero]))) ?_
  refine D_ev 1 (by kernel_rfl) rfl ?_
  refine L_call (.plain rfl) rfl rfl (r_call Tryd.func22 rfl rfl rfl (by rfl)) (bytes_walk _ bw _ _ (hW5.nw (by (repeat (first | exact Ch.refl _ | assumption | (refine Ch.fresh ?_ (by assumption) (by intro i hi he; first | exact he | (exfalso; have he2 : _ = some i := he; have := ow_base (by assumption) he2; omega) | (exfalso; have := he.1; omega))))))) (by simp only [List.length_append, List.flatMap_singleton]; omega)) ?_
  rintro v51 w16 ⟨v51, rfl, how, c16⟩
  have hz16 := c16.size
  refine L_nil ?_
  refine heldK (by (exact Bk.to (by assumption) (by (repeat (first | exact Sm.refl _ _ | (refine Sm.stepT (by assumption) (by intro hlt hsm; first | exact not_no | (intro he; have he2 : _ = some _ := he; have := ow_base (by assumption) he2; omega) | exact bk_not (by assumption) hsm rfl) ?_)))))) (fun hS => ?_)
  refine D_ev 4 (by kernel_rfl) rfl ?_
  have hO2 : Ow w16 w0.heap.size 5 1 v51 _ _ := Ow.mono (Ow.to how (fun i hi => by (repeat (first | exact Sm.refl _ _ | (refine Sm.stepT (by assumption) (by intro hlt hsm; first | exact not_no | (intro he; have he2 : _ = some _ := he; have := ow_base (by assumption) he2; omega) | exact bk_not (by assumption) hsm rfl) ?_))))) (by omega)
  refine L_apows Tryd.underlying26 Tryd.underlying9 bytes_info (.plain rfl) rfl (by conv => lhs; whnf) rfl hO2 (by unfold maxLen; simp only [List.length_append, List.flatMap_singleton]; omega) (by simp only [List.length_append, List.flatMap_singleton]; omega) (by omega) (fun v54 w17 ho54 c17 hob54 => ?_)
  have hz17 := c17.size
  have hB54 : By w17 v54 (putM m) := by
    have h := Ow.sl ho54
    rw [← List.map_append, putM_eq] at h
    have e : (putM m).length = (headL m ++ midL m ++ [m.body.size].flatMap varL).length + m.body.size := by rw [← putM_eq, List.length_append, bs_length]
    show Sl _ _ 1 (putM m).length _
    rw [e]; exact h
  clear hO2
  refine L_nil ?_
  refine heldK (by (exact Bk.to (by assumption) (by (repeat (first | exact Sm.refl _ _ | (refine Sm.stepT (by assumption) (by intro hlt hsm; first | exact not_no | (intro he; have he2 : _ = some _ := he; have := ow_base (by assumption) he2; omega) | exact bk_not (by assumption) hsm rfl) ?_)))))) (fun hS => ?_)
  refine D_ev 5 (by kernel_rfl) rfl ?_
  refine L_call (.plain rfl) rfl rfl (r_call Tryd.func21 rfl rfl rfl (by rfl)) (put_walk _ (putM m) _ (by (exact Sl.to (by first | assumption | exact Sl.own (by assumption) | exact Mu.sl (by assumption) | exact Ow.sl (by assumption)) (fun i hi => by (repeat (first | exact Sm.refl _ _ | (refine Sm.stepT (by assumption) (by intro hlt hsm; first | exact not_no | (intro he; have he2 : _ = some _ := he; have := ow_base (by assumption) he2; omega) | exact bk_not (by assumption) hsm rfl) ?_)))))) (by have := putM_le hok hc; omega)) ?_
  rintro v55 w18 ⟨v55, rfl, hof, c18⟩
  have hz18 := c18.size
  refine L_nil ?_
  refine heldK (by (exact Bk.to (by assumption) (by (repeat (first | exact Sm.refl _ _ | (refine Sm.stepT (by assumption) (by intro hlt hsm; first | exact not_no | (intro he; have he2 : _ = some _ := he; have := ow_base (by assumption) he2; omega) | exact bk_not (by assumption) hsm rfl) ?_)))))) (fun hS => ?_)
  refine D_take 6 rfl (by kernel_rfl) (by kernel_rfl) (by kernel_rfl) (by kernel_rfl) (.plain rfl) rfl rfl (by assumption) (fun W hW => r_ext2_0 rfl) ?_
  refine D_take 7 rfl (by kernel_rfl) (by kernel_rfl) (by kernel_rfl) (by kernel_rfl) (.plain rfl) rfl rfl (by assumption) (fun W hW => r_ext2_1 rfl) ?_
  refine D_take 8 rfl (by kernel_rfl) (by kernel_rfl) (by kernel_rfl) (by kernel_rfl) (.plain rfl) rfl rfl (by assumption) (fun W hW => r_assign (by conv => lhs; whnf)) ?_
  refine D_take 9 rfl (by kernel_rfl) (by kernel_rfl) (by kernel_rfl) (by kernel_rfl) (.plain rfl) rfl rfl (by assumption) (fun W hW => r_assign (v := .int _ _) rfl) ?_
  refine D_done (by kernel_rfl) ?_
  refine W_ret ?_
  refine ret2 (v := .int _ _) rfl (by conv => lhs; whnf) rfl ?_
  exact ⟨_, rfl, own_mono hof (by omega), by (repeat (first | exact Ch.refl _ | assumption | (refine Ch.fresh ?_ (by assumption) (by intro i hi he; first | exact he | (exfalso; have he2 : _ = some i := he; have := ow_base (by assumption) he2; omega) | (exfalso; have := he.1; omega)))))⟩
end Go.Proofs.YtcbcelfgbelaoaaDoor

