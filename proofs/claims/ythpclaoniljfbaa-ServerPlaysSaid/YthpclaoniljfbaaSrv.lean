/- The server, walked: its small functions, and what it keeps no more. -/
import Derived.Test.YthpclaoniljfbaaMsgEq
namespace Go.Proofs.Ythpclaoniljfbaa
open Go Go.RowKit
set_option linter.unusedVariables false
set_option linter.unusedSimpArgs false
instance : DecidableEq Msg := fun a b => decidable_of_iff (a.kind = b.kind ∧ a.life = b.life ∧ a.seq = b.seq ∧ a.below = b.below ∧ a.object = b.object ∧ a.method = b.method ∧ a.way = b.way ∧ a.body = b.body)
  ⟨fun ⟨h1, h2, h3, h4, h5, h6, h7, h8⟩ => by cases a; cases b; simp_all, fun h => by subst h; exact ⟨rfl, rfl, rfl, rfl, rfl, rfl, rfl, rfl⟩⟩
theorem msg_ext {a b : Msg} : a = b ↔ (a.kind = b.kind ∧ a.life = b.life ∧ a.seq = b.seq ∧ a.below = b.below ∧ a.object = b.object ∧ a.method = b.method ∧ a.way = b.way ∧ a.body = b.body) :=
  ⟨fun h => by subst h; exact ⟨rfl, rfl, rfl, rfl, rfl, rfl, rfl, rfl⟩, fun ⟨h1, h2, h3, h4, h5, h6, h7, h8⟩ => by cases a; cases b; simp_all⟩
structure Srv where
  most : Int
  life : Int
  floor : Int
  kept : List (Int × Msg)
  st : List (Int × Int)
def cells2 (L : List (Int × Int)) : List Value := L.flatMap fun p => [.int .u64 p.1, .int .u64 p.2]
theorem cells2_append (M K : List (Int × Int)) : cells2 (M ++ K) = cells2 M ++ cells2 K := by simp [cells2]
theorem cells2_one (M : List (Int × Int)) : ∀ y ∈ cells2 M, y.oneCell' = true := by
  intro y hy
  simp only [cells2, List.mem_flatMap] at hy
  obtain ⟨m, _, hy⟩ := hy
  rcases List.mem_cons.1 hy with rfl | hy
  · rfl
  · rw [List.mem_singleton] at hy; subst hy; rfl
theorem pair_info : (Try.prog.info? 50).map (fun i => (i.zero, i.size, i.bytes)) = some (some (.agg #[.int .u64 0, .int .u64 0]), 2, 16) := rfl
theorem u64_info : (Try.prog.info? 28).map (fun i => (i.zero, i.size, i.bytes)) = some (some (.int .u64 0), 1, 8) := rfl
abbrev Srv.row (S : Srv) (bm : Nat) (vs : Value) : Array Value := #[.int .i64 S.most, .int .u64 S.life, .int .u64 S.floor, .map (some bm), vs]
/-- A server: its block, its map, its row. -/
structure SrvAt (base : Nat) (w : World) (b bm : Nat) (vs : Value) (S : Srv) : Prop where
  bk : Bk w b (S.row bm vs) 61
  hb : base ≤ b
  mp : Mp (.int .u64) Msg.v w bm S.kept
  hm : base ≤ bm
  ow : Ow w base 50 2 vs S.st.length (cells2 S.st)
/-- What a server may write. -/
def Fp (b bm : Nat) (vs : Value) (j : Nat) : Prop := j = b ∨ j = bm ∨ vs.ownBlock = some j
abbrev SrvC (b bm : Nat) (vs : Value) (w w' : World) : Prop := Ch (Fp b bm vs) w w'
theorem SrvAt.ne {base : Nat} {w : World} {b bm : Nat} {vs : Value} {S : Srv} (h : SrvAt base w b bm vs S) : bm ≠ b := h.mp.ne h.bk
theorem SrvAt.nov {base : Nat} {w : World} {b bm : Nat} {vs : Value} {S : Srv} (h : SrvAt base w b bm vs S) : vs.ownBlock ≠ some b ∧ vs.ownBlock ≠ some bm := by
  refine ⟨fun e => ?_, fun e => ?_⟩
  · obtain ⟨cs, hb⟩ := h.ow.bk e
    exact Bk.ne h.bk hb (by decide) rfl
  · obtain ⟨cs, hb⟩ := h.ow.bk e
    exact h.mp.ne hb rfl
theorem SrvAt.nw {base : Nat} {w w' : World} {b bm : Nat} {vs : Value} {S : Srv} (h : SrvAt base w b bm vs S) (c : Nw w w') : SrvAt base w' b bm vs S :=
  ⟨h.bk.ch c not_no, h.hb, h.mp.ch c not_no, h.hm, h.ow.nw c⟩
/-- Another one's writing leaves it. -/
theorem SrvAt.ch {base : Nat} {w w' : World} {b bm : Nat} {vs : Value} {S : Srv} {X : Nat → Prop} (h : SrvAt base w b bm vs S) (c : Ch X w w') (hX : ∀ j, Fp b bm vs j → ¬ X j) : SrvAt base w' b bm vs S :=
  ⟨h.bk.ch c (hX _ (.inl rfl)), h.hb, h.mp.ch c (hX _ (.inr (.inl rfl))), h.hm, h.ow.to fun i hi => Sm.step c (fun _ => hX i (.inr (.inr hi))) (Sm.refl _ _)⟩
theorem SrvAt.base' {base base' : Nat} {w : World} {b bm : Nat} {vs : Value} {S : Srv} (h : SrvAt base w b bm vs S) (hb : base' ≤ base) : SrvAt base' w b bm vs S :=
  ⟨h.bk, Nat.le_trans hb h.hb, h.mp, Nat.le_trans hb h.hm, h.ow.mono hb⟩
theorem SrvAt.ge {base : Nat} {w : World} {b bm : Nat} {vs : Value} {S : Srv} (h : SrvAt base w b bm vs S) : ∀ j, Fp b bm vs j → base ≤ j := by
  rintro j (rfl | rfl | hj)
  · exact h.hb
  · exact h.hm
  · exact ow_base h.ow hj
theorem SrvAt.lt {base : Nat} {w : World} {b bm : Nat} {vs : Value} {S : Srv} (h : SrvAt base w b bm vs S) : ∀ j, Fp b bm vs j → j < w.heap.size := by
  rintro j (rfl | rfl | hj)
  · exact h.bk.lt
  · exact h.mp.lt
  · exact Ow.lt h.ow hj
theorem few_walk (k : Int) (m : Msg) (w0 : World) : Does Try.prog 10 #[.agg #[.int .i64 k, .int .i64 m.kind, .int .u64 m.life, .int .u64 m.seq, .int .u64 m.below, .int .u64 m.object, .string m.method, .int .i64 m.way, .string m.body]] w0 (fun r w' => r = .bool (decide (m.body.size ≤ 9000 ∧ m.method.size ≤ 100)) ∧ Nw w0 w') := by
  refine fn_of (n := 15) (args := [.agg #[.int .i64 k, .int .i64 m.kind, .int .u64 m.life, .int .u64 m.seq, .int .u64 m.below, .int .u64 m.object, .string m.method, .int .i64 m.way, .string m.body]]) Try.func10 rfl rfl rfl ?_
  refine W_seq ?_
  refine W_region ?_
  refine L_new (.plain rfl) rfl rfl (r_boxa rfl) (fun w1 b1 hb1 eb1 hs1 c1 => ?_)
  refine L_run (.plain rfl) rfl rfl (r_assign (v := .bool _) rfl) ?_
  refine L_nil ?_
  refine W_seq ?_
  refine W_region ?_
  refine L_run (.plain rfl) rfl rfl (r_fieldb Try.underlying35 rfl (show _ = some 8 from rfl) rfl rfl (show _ = 1 from rfl)) ?_
  refine L_run (.plain rfl) rfl rfl (r_fieldb Try.underlying33 rfl (show _ = some 1 from rfl) rfl rfl (show _ = 8 from rfl)) ?_
  refine L_run (.plain rfl) rfl rfl (r_loadb rfl rfl (by (exact Bk.to (by assumption) (by (repeat (first | exact Sm.refl _ _ | (refine Sm.stepT (by assumption) (by intro hlt hsm; first | exact not_no | (intro he; have he2 : _ = some _ := he; have := own_base (by assumption) he2; omega) | (intro he; have he2 : _ = _ := he; omega) | (intro he; have he2 : _ = some _ := he; have := ow_base (by assumption) he2; omega) | (intro he; have := he.1; omega) | exact bk_not (by assumption) hsm rfl | exact mp_not (by assumption) hsm | exact bkm_not (by assumption) hsm rfl | (refine ownm_not ?_ hi hsm rfl <;> assumption) | (refine owm_not ?_ hi hsm rfl <;> assumption) | (refine own_not ?_ hi hsm rfl <;> assumption) | (refine ow_not ?_ hi hsm rfl <;> assumption) | (intro he; have he2 : _ = some _ := he; have := Ow.lt (by assumption) he2; omega) | (intro he; have he2 : _ = some _ := he; have := Ow.lt (by assumption) he2; have := own_base (by assumption) hi; omega) | (intro he; have he2 : _ = some _ := he; have := Ow.lt how he2; first | omega | (have := own_base (by assumption) hi; omega)) | (intro he; have he2 : _ = _ := he; have := Ow.lt how hi; omega) | (intro he; have he2 : _ = _ := he; have := own_base (by assumption) hi; omega) | (intro he; have he2 : _ = _ := he; have := ow_base (by assumption) hi; omega) | (intro he; have he2 : _ = _ := he; rw [he2] at hi; exact absurd hi (by assumption)) | (intro he; have he2 : _ = some _ := he; have h3 := own_lt (by assumption) he2; first | omega | (have h4 : _ = some _ := hi; simp [Value.ownBlock] at h4; omega)) | (intro he; have he2 : _ = some _ := he; have h3 := ow_base (by assumption) he2; have h4 : _ = some _ := hi; simp [Value.ownBlock] at h4; omega) | (intro he; have he2 : _ = some _ := he; exact absurd he2 (hsep _ hi)) | (intro he; first | exact absurd he (by assumption) | exact absurd he.symm (by assumption))) ?_)))))) (by first | assumption | (conv => lhs; simp only [List.getElem?_toArray, List.getElem?_cons_succ, List.getElem?_cons_zero]))) ?_
  refine L_run (.plain rfl) rfl rfl (r_lens Try.underlying9 rfl) ?_
  refine L_run (.plain rfl) rfl rfl (r_leq rfl rfl) ?_
  refine L_run (.plain rfl) rfl rfl (r_move (v := .bool _) rfl) ?_
  refine L_case (d := 8) rfl (fun h8 => ?_) (fun h8 => ?_)
  · refine L_run (.yes 5 true rfl rfl) rfl rfl (r_fieldb Try.underlying35 rfl (show _ = some 8 from rfl) rfl rfl (show _ = 1 from rfl)) ?_
    refine L_run (.yes 5 true rfl rfl) rfl rfl (r_fieldb Try.underlying33 rfl (show _ = some 1 from rfl) rfl rfl (show _ = 6 from rfl)) ?_
    refine L_run (.yes 5 true rfl rfl) rfl rfl (r_loadb rfl rfl (by (exact Bk.to (by assumption) (by (repeat (first | exact Sm.refl _ _ | (refine Sm.stepT (by assumption) (by intro hlt hsm; first | exact not_no | (intro he; have he2 : _ = some _ := he; have := own_base (by assumption) he2; omega) | (intro he; have he2 : _ = _ := he; omega) | (intro he; have he2 : _ = some _ := he; have := ow_base (by assumption) he2; omega) | (intro he; have := he.1; omega) | exact bk_not (by assumption) hsm rfl | exact mp_not (by assumption) hsm | exact bkm_not (by assumption) hsm rfl | (refine ownm_not ?_ hi hsm rfl <;> assumption) | (refine owm_not ?_ hi hsm rfl <;> assumption) | (refine own_not ?_ hi hsm rfl <;> assumption) | (refine ow_not ?_ hi hsm rfl <;> assumption) | (intro he; have he2 : _ = some _ := he; have := Ow.lt (by assumption) he2; omega) | (intro he; have he2 : _ = some _ := he; have := Ow.lt (by assumption) he2; have := own_base (by assumption) hi; omega) | (intro he; have he2 : _ = some _ := he; have := Ow.lt how he2; first | omega | (have := own_base (by assumption) hi; omega)) | (intro he; have he2 : _ = _ := he; have := Ow.lt how hi; omega) | (intro he; have he2 : _ = _ := he; have := own_base (by assumption) hi; omega) | (intro he; have he2 : _ = _ := he; have := ow_base (by assumption) hi; omega) | (intro he; have he2 : _ = _ := he; rw [he2] at hi; exact absurd hi (by assumption)) | (intro he; have he2 : _ = some _ := he; have h3 := own_lt (by assumption) he2; first | omega | (have h4 : _ = some _ := hi; simp [Value.ownBlock] at h4; omega)) | (intro he; have he2 : _ = some _ := he; have h3 := ow_base (by assumption) he2; have h4 : _ = some _ := hi; simp [Value.ownBlock] at h4; omega) | (intro he; have he2 : _ = some _ := he; exact absurd he2 (hsep _ hi)) | (intro he; first | exact absurd he (by assumption) | exact absurd he.symm (by assumption))) ?_)))))) (by first | assumption | (conv => lhs; simp only [List.getElem?_toArray, List.getElem?_cons_succ, List.getElem?_cons_zero]))) ?_
    refine L_run (.yes 5 true rfl rfl) rfl rfl (r_lens Try.underlying9 rfl) ?_
    refine L_run (.yes 5 true rfl rfl) rfl rfl (r_leq rfl rfl) ?_
    refine L_run (.plain rfl) rfl rfl (r_pick_t (v := .bool _) rfl rfl) ?_
    refine L_run (.plain rfl) rfl rfl (r_assign (v := .bool _) rfl) ?_
    refine L_nil ?_
    refine W_ret ?_
    refine ret1 (v := .bool _) rfl rfl ?_
    refine ⟨?_, by (repeat (first | exact Ch.refl _ | assumption | (refine Ch.fresh ?_ (by assumption) (by intro i hi he; first | exact he | exact (not_no he).elim | exact Or.inl he | exact Or.inr (Or.inl he) | exact Or.inr (Or.inr he) | (exfalso; have he2 : _ = some i := he; have := own_base (by assumption) he2; omega) | (exfalso; have he2 : i = _ := he; omega) | (exfalso; have he2 : _ = some i := he; have := ow_base (by assumption) he2; omega) | (exfalso; have := he.1; omega)))))⟩
    first
      | (apply bool_dec; omega)
      | (apply bool_f; omega)
  · refine L_pass rfl rfl rfl rfl rfl ?_
    refine L_pass rfl rfl rfl rfl rfl ?_
    refine L_pass rfl rfl rfl rfl rfl ?_
    refine L_pass rfl rfl rfl rfl rfl ?_
    refine L_pass rfl rfl rfl rfl rfl ?_
    refine L_run (.plain rfl) rfl rfl (r_pick_f (v := .bool _) rfl rfl) ?_
    refine L_run (.plain rfl) rfl rfl (r_assign (v := .bool _) rfl) ?_
    refine L_nil ?_
    refine W_ret ?_
    refine ret1 (v := .bool _) rfl rfl ?_
    refine ⟨?_, by (repeat (first | exact Ch.refl _ | assumption | (refine Ch.fresh ?_ (by assumption) (by intro i hi he; first | exact he | exact (not_no he).elim | exact Or.inl he | exact Or.inr (Or.inl he) | exact Or.inr (Or.inr he) | (exfalso; have he2 : _ = some i := he; have := own_base (by assumption) he2; omega) | (exfalso; have he2 : i = _ := he; omega) | (exfalso; have he2 : _ = some i := he; have := ow_base (by assumption) he2; omega) | (exfalso; have := he.1; omega)))))⟩
    first
      | (apply bool_dec; omega)
      | (apply bool_f; omega)
theorem call_walk (life seq below : Int) (w0 : World) : Does Try.prog 20 #[.int .u64 life, .int .u64 seq, .int .u64 below] w0 (fun r w' => r = Msg.v ⟨0, life, seq, below, 0, { data := #[103, 111] }, 0, { data := #[] }⟩ ∧ Nw w0 w') := by
  refine fn_of (n := 11) (args := [.int .u64 life, .int .u64 seq, .int .u64 below]) Try.func20 rfl rfl rfl ?_
  refine W_seq ?_
  refine W_region ?_
  refine L_new (.plain rfl) rfl rfl (r_alloca rfl) (fun w1 b6 hb6 eb1 hs1 c1 => ?_)
  refine L_nil ?_
  refine W_seq ?_
  refine W_region ?_
  refine L_run (.plain rfl) rfl rfl (r_move (v := .int _ _) rfl) ?_
  refine L_run (.plain rfl) rfl rfl (r_move (v := .int _ _) rfl) ?_
  refine L_run (.plain rfl) rfl rfl (r_move (v := .int _ _) rfl) ?_
  refine L_run (.plain rfl) rfl rfl (r_build1 (pl := [(0, 1), (1, 1), (2, 1), (3, 1), (4, 1), (5, 1), (6, 1), (7, 1)]) (vs := [(1, .int _ _), (2, .int _ _), (3, .int _ _), (5, .string _)]) (cells := [_, _, _, _, _, _, _, _]) Try.underlying33 rfl rfl (by rfl) rfl (by rfl)) ?_
  refine L_storerow (.plain rfl) rfl rfl (by (exact Bk.to (by assumption) (by (repeat (first | exact Sm.refl _ _ | (refine Sm.stepT (by assumption) (by intro hlt hsm; first | exact not_no | (intro he; have he2 : _ = some _ := he; have := own_base (by assumption) he2; omega) | (intro he; have he2 : _ = _ := he; omega) | (intro he; have he2 : _ = some _ := he; have := ow_base (by assumption) he2; omega) | (intro he; have := he.1; omega) | exact bk_not (by assumption) hsm rfl | exact mp_not (by assumption) hsm | exact bkm_not (by assumption) hsm rfl | (refine ownm_not ?_ hi hsm rfl <;> assumption) | (refine owm_not ?_ hi hsm rfl <;> assumption) | (refine own_not ?_ hi hsm rfl <;> assumption) | (refine ow_not ?_ hi hsm rfl <;> assumption) | (intro he; have he2 : _ = some _ := he; have := Ow.lt (by assumption) he2; omega) | (intro he; have he2 : _ = some _ := he; have := Ow.lt (by assumption) he2; have := own_base (by assumption) hi; omega) | (intro he; have he2 : _ = some _ := he; have := Ow.lt how he2; first | omega | (have := own_base (by assumption) hi; omega)) | (intro he; have he2 : _ = _ := he; have := Ow.lt how hi; omega) | (intro he; have he2 : _ = _ := he; have := own_base (by assumption) hi; omega) | (intro he; have he2 : _ = _ := he; have := ow_base (by assumption) hi; omega) | (intro he; have he2 : _ = _ := he; rw [he2] at hi; exact absurd hi (by assumption)) | (intro he; have he2 : _ = some _ := he; have h3 := own_lt (by assumption) he2; first | omega | (have h4 : _ = some _ := hi; simp [Value.ownBlock] at h4; omega)) | (intro he; have he2 : _ = some _ := he; have h3 := ow_base (by assumption) he2; have h4 : _ = some _ := hi; simp [Value.ownBlock] at h4; omega) | (intro he; have he2 : _ = some _ := he; exact absurd he2 (hsep _ hi)) | (intro he; first | exact absurd he (by assumption) | exact absurd he.symm (by assumption))) ?_)))))) (by first | rfl | (simp; done) | assumption) (by first | rfl | assumption) (by first | rfl | (simp [Value.oneCell']; done) | assumption) (fun w2 hb2 hs2 c2 => ?_)
  refine L_nil ?_
  refine W_ret ?_
  refine r_ret_row rfl rfl Try.underlying33 rfl (by (exact Bk.to (by assumption) (by (repeat (first | exact Sm.refl _ _ | (refine Sm.stepT (by assumption) (by intro hlt hsm; first | exact not_no | (intro he; have he2 : _ = some _ := he; have := own_base (by assumption) he2; omega) | (intro he; have he2 : _ = _ := he; omega) | (intro he; have he2 : _ = some _ := he; have := ow_base (by assumption) he2; omega) | (intro he; have := he.1; omega) | exact bk_not (by assumption) hsm rfl | exact mp_not (by assumption) hsm | exact bkm_not (by assumption) hsm rfl | (refine ownm_not ?_ hi hsm rfl <;> assumption) | (refine owm_not ?_ hi hsm rfl <;> assumption) | (refine own_not ?_ hi hsm rfl <;> assumption) | (refine ow_not ?_ hi hsm rfl <;> assumption) | (intro he; have he2 : _ = some _ := he; have := Ow.lt (by assumption) he2; omega) | (intro he; have he2 : _ = some _ := he; have := Ow.lt (by assumption) he2; have := own_base (by assumption) hi; omega) | (intro he; have he2 : _ = some _ := he; have := Ow.lt how he2; first | omega | (have := own_base (by assumption) hi; omega)) | (intro he; have he2 : _ = _ := he; have := Ow.lt how hi; omega) | (intro he; have he2 : _ = _ := he; have := own_base (by assumption) hi; omega) | (intro he; have he2 : _ = _ := he; have := ow_base (by assumption) hi; omega) | (intro he; have he2 : _ = _ := he; rw [he2] at hi; exact absurd hi (by assumption)) | (intro he; have he2 : _ = some _ := he; have h3 := own_lt (by assumption) he2; first | omega | (have h4 : _ = some _ := hi; simp [Value.ownBlock] at h4; omega)) | (intro he; have he2 : _ = some _ := he; have h3 := ow_base (by assumption) he2; have h4 : _ = some _ := hi; simp [Value.ownBlock] at h4; omega) | (intro he; have he2 : _ = some _ := he; exact absurd he2 (hsep _ hi)) | (intro he; first | exact absurd he (by assumption) | exact absurd he.symm (by assumption))) ?_)))))) (by first | rfl | assumption) ?_
  exact ⟨rfl, by (repeat (first | exact Ch.refl _ | assumption | (refine Ch.fresh ?_ (by assumption) (by intro i hi he; first | exact he | exact (not_no he).elim | exact Or.inl he | exact Or.inr (Or.inl he) | exact Or.inr (Or.inr he) | (exfalso; have he2 : _ = some i := he; have := own_base (by assumption) he2; omega) | (exfalso; have he2 : i = _ := he; omega) | (exfalso; have he2 : _ = some i := he; have := ow_base (by assumption) he2; omega) | (exfalso; have := he.1; omega)))))⟩
theorem runs_walk (m : Msg) (w0 : World) : Does Try.prog 27 #[m.v] w0 (fun r w' => r = .bool (decide (m = Msg.zero)) ∧ Nw w0 w') := by
  refine fn_of (n := 6) (args := [m.v]) Try.func27 rfl rfl rfl ?_
  refine W_seq ?_
  refine W_region ?_
  refine L_new (.plain rfl) rfl rfl (r_boxa rfl) (fun w1 b1 hb1 eb1 hs1 c1 => ?_)
  refine L_run (.plain rfl) rfl rfl (r_assign (v := .bool _) rfl) ?_
  refine L_nil ?_
  refine W_seq ?_
  refine W_region ?_
  refine L_run (.plain rfl) rfl rfl (r_loadrow Try.underlying33 rfl rfl (by (exact Bk.to (by assumption) (by (repeat (first | exact Sm.refl _ _ | (refine Sm.stepT (by assumption) (by intro hlt hsm; first | exact not_no | (intro he; have he2 : _ = some _ := he; have := own_base (by assumption) he2; omega) | (intro he; have he2 : _ = _ := he; omega) | (intro he; have he2 : _ = some _ := he; have := ow_base (by assumption) he2; omega) | (intro he; have := he.1; omega) | exact bk_not (by assumption) hsm rfl | exact mp_not (by assumption) hsm | exact bkm_not (by assumption) hsm rfl | (refine ownm_not ?_ hi hsm rfl <;> assumption) | (refine owm_not ?_ hi hsm rfl <;> assumption) | (refine own_not ?_ hi hsm rfl <;> assumption) | (refine ow_not ?_ hi hsm rfl <;> assumption) | (intro he; have he2 : _ = some _ := he; have := Ow.lt (by assumption) he2; omega) | (intro he; have he2 : _ = some _ := he; have := Ow.lt (by assumption) he2; have := own_base (by assumption) hi; omega) | (intro he; have he2 : _ = some _ := he; have := Ow.lt how he2; first | omega | (have := own_base (by assumption) hi; omega)) | (intro he; have he2 : _ = _ := he; have := Ow.lt how hi; omega) | (intro he; have he2 : _ = _ := he; have := own_base (by assumption) hi; omega) | (intro he; have he2 : _ = _ := he; have := ow_base (by assumption) hi; omega) | (intro he; have he2 : _ = _ := he; rw [he2] at hi; exact absurd hi (by assumption)) | (intro he; have he2 : _ = some _ := he; have h3 := own_lt (by assumption) he2; first | omega | (have h4 : _ = some _ := hi; simp [Value.ownBlock] at h4; omega)) | (intro he; have he2 : _ = some _ := he; have h3 := ow_base (by assumption) he2; have h4 : _ = some _ := hi; simp [Value.ownBlock] at h4; omega) | (intro he; have he2 : _ = some _ := he; exact absurd he2 (hsep _ hi)) | (intro he; first | exact absurd he (by assumption) | exact absurd he.symm (by assumption))) ?_)))))) (by first | rfl | assumption)) ?_
  refine L_run (.plain rfl) rfl rfl (r_build1 (pl := [(0, 1), (1, 1), (2, 1), (3, 1), (4, 1), (5, 1), (6, 1), (7, 1)]) (vs := []) (cells := [_, _, _, _, _, _, _, _]) Try.underlying33 rfl rfl (by rfl) rfl (by rfl)) ?_
  refine L_run (.plain rfl) rfl rfl (r_eqlR (xs := #[.int _ _, .int _ _, .int _ _, .int _ _, .int _ _, .string _, .int _ _, .string _]) (ys := #[.int _ _, .int _ _, .int _ _, .int _ _, .int _ _, .string _, .int _ _, .string _]) rfl rfl (by kernel_rfl) (eqMsg _ _ _ _ _ _ _ _ _ _ _ _ _ _ _ _ _)) ?_
  refine L_run (.plain rfl) rfl rfl (r_assign (v := .bool _) rfl) ?_
  refine L_nil ?_
  refine W_ret ?_
  refine ret1 (v := .bool _) rfl rfl ?_
  exact ⟨bool_dec (msg_ext (a := m) (b := Msg.zero)).symm, by (repeat (first | exact Ch.refl _ | assumption | (refine Ch.fresh ?_ (by assumption) (by intro i hi he; first | exact he | exact (not_no he).elim | exact Or.inl he | exact Or.inr (Or.inl he) | exact Or.inr (Or.inr he) | (exfalso; have he2 : _ = some i := he; have := own_base (by assumption) he2; omega) | (exfalso; have he2 : i = _ := he; omega) | (exfalso; have he2 : _ = some i := he; have := ow_base (by assumption) he2; omega) | (exfalso; have := he.1; omega)))))⟩
theorem new_none (most : Int) (w0 : World) (hn : ¬ (1 ≤ most ∧ most ≤ 1024)) : Does Try.prog 8 #[.int .i64 most] w0 (fun r w' => r = .tuple #[.pointer none, .int .i64 140] ∧ w' = w0) := by
  refine fn_of (n := 14) (args := [.int .i64 most]) Try.func8 rfl rfl rfl ?_
  refine W_seq ?_
  refine W_region ?_
  refine L_run (.plain rfl) rfl rfl (r_assign (v := .pointer _) rfl) ?_
  refine L_run (.plain rfl) rfl rfl (r_assign (v := .int _ _) rfl) ?_
  refine L_nil ?_
  refine W_seq ?_
  refine W_seq ?_
  refine W_region ?_
  refine L_run (.plain rfl) rfl rfl (r_move (v := .int _ _) rfl) ?_
  refine L_run (.plain rfl) rfl rfl (r_lss rfl rfl) ?_
  refine L_run (.plain rfl) rfl rfl (r_move (v := .bool _) rfl) ?_
  refine L_case (d := 6) rfl (fun h6 => ?_) (fun h6 => ?_)
  · refine L_pass rfl rfl rfl rfl rfl ?_
    refine L_pass rfl rfl rfl rfl rfl ?_
    refine L_run (.plain rfl) rfl rfl (r_pick_t (v := .bool _) rfl rfl) ?_
    refine L_nil ?_
    refine W_true rfl ?_
    refine W_seq ?_
    refine W_region ?_
    refine L_run (.plain rfl) rfl rfl (r_assign (v := .pointer _) rfl) ?_
    refine L_run (.plain rfl) rfl rfl (r_assign (v := .int _ _) rfl) ?_
    refine L_nil ?_
    refine W_ret ?_
    refine ret2 (u := .pointer _) (v := .int _ _) rfl rfl rfl ?_
    exact ⟨rfl, rfl⟩
  · refine L_run (.yes 2 false rfl rfl) rfl rfl (r_move (v := .int _ _) rfl) ?_
    refine L_run (.yes 2 false rfl rfl) rfl rfl (r_gtr rfl rfl) ?_
    refine L_run (.plain rfl) rfl rfl (r_pick_f (v := .bool _) rfl rfl) ?_
    refine L_nil ?_
    refine W_if rfl (fun h9 => ?_) (fun h9 => ?_)
    · refine W_seq ?_
      refine W_region ?_
      refine L_run (.plain rfl) rfl rfl (r_assign (v := .pointer _) rfl) ?_
      refine L_run (.plain rfl) rfl rfl (r_assign (v := .int _ _) rfl) ?_
      refine L_nil ?_
      refine W_ret ?_
      refine ret2 (u := .pointer _) (v := .int _ _) rfl rfl rfl ?_
      exact ⟨rfl, rfl⟩
    · omega
theorem new_walk (most : Int) (w0 : World) (hn : 1 ≤ most ∧ most ≤ 1024) : Does Try.prog 8 #[.int .i64 most] w0 (fun r w' => ∃ b bm, r = .tuple #[.pointer (some ⟨b, 0, none⟩), .int .i64 0] ∧ SrvAt w0.heap.size w' b bm (.slice none 0 0) ⟨most, 0, 1, [], []⟩ ∧ Nw w0 w') := by
  refine fn_of (n := 14) (args := [.int .i64 most]) Try.func8 rfl rfl rfl ?_
  refine W_seq ?_
  refine W_region ?_
  refine L_run (.plain rfl) rfl rfl (r_assign (v := .pointer _) rfl) ?_
  refine L_run (.plain rfl) rfl rfl (r_assign (v := .int _ _) rfl) ?_
  refine L_nil ?_
  refine W_seq ?_
  refine W_seq ?_
  refine W_region ?_
  refine L_run (.plain rfl) rfl rfl (r_move (v := .int _ _) rfl) ?_
  refine L_run (.plain rfl) rfl rfl (r_lss rfl rfl) ?_
  refine L_run (.plain rfl) rfl rfl (r_move (v := .bool _) rfl) ?_
  refine L_case (d := 6) rfl (fun h6 => ?_) (fun h6 => ?_)
  · omega
  · refine L_run (.yes 2 false rfl rfl) rfl rfl (r_move (v := .int _ _) rfl) ?_
    refine L_run (.yes 2 false rfl rfl) rfl rfl (r_gtr rfl rfl) ?_
    refine L_run (.plain rfl) rfl rfl (r_pick_f (v := .bool _) rfl rfl) ?_
    refine L_nil ?_
    refine W_if rfl (fun h9 => ?_) (fun h9 => ?_)
    · omega
    · refine W_skip ?_
      refine W_seq ?_
      refine W_region ?_
      refine L_run (.plain rfl) rfl rfl (r_move (v := .int _ _) rfl) ?_
      refine L_mkmap (K := Int) (V := Msg) (.int .u64) (Msg.v) (.plain rfl) rfl (fun w1 b11 hb11 eb1 hs1 c1 => ?_)
      refine L_run (.plain rfl) rfl rfl (r_build1 (pl := [(0, 1), (1, 1), (2, 1), (3, 1), (4, 1)]) (vs := [(0, .int _ _), (2, .int _ _), (3, .map _)]) (cells := [_, _, _, _, _]) Try.underlying61 rfl rfl (by rfl) rfl (by rfl)) ?_
      refine L_new (.plain rfl) rfl rfl (r_boxa rfl) (fun w2 b13 hb13 eb2 hs2 c2 => ?_)
      refine L_run (.plain rfl) rfl rfl (r_assign (v := .pointer _) rfl) ?_
      refine L_run (.plain rfl) rfl rfl (r_assign (v := .int _ _) rfl) ?_
      refine L_nil ?_
      refine W_ret ?_
      refine ret2 (u := .pointer _) (v := .int _ _) rfl rfl rfl ?_
      exact ⟨_, _, rfl, ⟨by (exact Bk.to (by assumption) (by (repeat (first | exact Sm.refl _ _ | (refine Sm.stepT (by assumption) (by intro hlt hsm; first | exact not_no | (intro he; have he2 : _ = some _ := he; have := own_base (by assumption) he2; omega) | (intro he; have he2 : _ = _ := he; omega) | (intro he; have he2 : _ = some _ := he; have := ow_base (by assumption) he2; omega) | (intro he; have := he.1; omega) | exact bk_not (by assumption) hsm rfl | exact mp_not (by assumption) hsm | exact bkm_not (by assumption) hsm rfl | (refine ownm_not ?_ hi hsm rfl <;> assumption) | (refine owm_not ?_ hi hsm rfl <;> assumption) | (refine own_not ?_ hi hsm rfl <;> assumption) | (refine ow_not ?_ hi hsm rfl <;> assumption) | (intro he; have he2 : _ = some _ := he; have := Ow.lt (by assumption) he2; omega) | (intro he; have he2 : _ = some _ := he; have := Ow.lt (by assumption) he2; have := own_base (by assumption) hi; omega) | (intro he; have he2 : _ = some _ := he; have := Ow.lt how he2; first | omega | (have := own_base (by assumption) hi; omega)) | (intro he; have he2 : _ = _ := he; have := Ow.lt how hi; omega) | (intro he; have he2 : _ = _ := he; have := own_base (by assumption) hi; omega) | (intro he; have he2 : _ = _ := he; have := ow_base (by assumption) hi; omega) | (intro he; have he2 : _ = _ := he; rw [he2] at hi; exact absurd hi (by assumption)) | (intro he; have he2 : _ = some _ := he; have h3 := own_lt (by assumption) he2; first | omega | (have h4 : _ = some _ := hi; simp [Value.ownBlock] at h4; omega)) | (intro he; have he2 : _ = some _ := he; have h3 := ow_base (by assumption) he2; have h4 : _ = some _ := hi; simp [Value.ownBlock] at h4; omega) | (intro he; have he2 : _ = some _ := he; exact absurd he2 (hsep _ hi)) | (intro he; first | exact absurd he (by assumption) | exact absurd he.symm (by assumption))) ?_))))), by omega, by (first | assumption | exact Mp.to (by assumption) (by (repeat (first | exact Sm.refl _ _ | (refine Sm.stepT (by assumption) (by intro hlt hsm; first | exact not_no | (intro he; have he2 : _ = some _ := he; have := own_base (by assumption) he2; omega) | (intro he; have he2 : _ = _ := he; omega) | (intro he; have he2 : _ = some _ := he; have := ow_base (by assumption) he2; omega) | (intro he; have := he.1; omega) | exact bk_not (by assumption) hsm rfl | exact mp_not (by assumption) hsm | exact bkm_not (by assumption) hsm rfl | (refine ownm_not ?_ hi hsm rfl <;> assumption) | (refine owm_not ?_ hi hsm rfl <;> assumption) | (refine own_not ?_ hi hsm rfl <;> assumption) | (refine ow_not ?_ hi hsm rfl <;> assumption) | (intro he; have he2 : _ = some _ := he; have := Ow.lt (by assumption) he2; omega) | (intro he; have he2 : _ = some _ := he; have := Ow.lt (by assumption) he2; have := own_base (by assumption) hi; omega) | (intro he; have he2 : _ = some _ := he; have := Ow.lt how he2; first | omega | (have := own_base (by assumption) hi; omega)) | (intro he; have he2 : _ = _ := he; have := Ow.lt how hi; omega) | (intro he; have he2 : _ = _ := he; have := own_base (by assumption) hi; omega) | (intro he; have he2 : _ = _ := he; have := ow_base (by assumption) hi; omega) | (intro he; have he2 : _ = _ := he; rw [he2] at hi; exact absurd hi (by assumption)) | (intro he; have he2 : _ = some _ := he; have h3 := own_lt (by assumption) he2; first | omega | (have h4 : _ = some _ := hi; simp [Value.ownBlock] at h4; omega)) | (intro he; have he2 : _ = some _ := he; have h3 := ow_base (by assumption) he2; have h4 : _ = some _ := hi; simp [Value.ownBlock] at h4; omega) | (intro he; have he2 : _ = some _ := he; exact absurd he2 (hsep _ hi)) | (intro he; first | exact absurd he (by assumption) | exact absurd he.symm (by assumption))) ?_))))), by omega, Ow.nil _ _ _ _⟩, by (repeat (first | exact Ch.refl _ | assumption | (refine Ch.fresh ?_ (by assumption) (by intro i hi he; first | exact he | exact (not_no he).elim | exact Or.inl he | exact Or.inr (Or.inl he) | exact Or.inr (Or.inr he) | (exfalso; have he2 : _ = some i := he; have := own_base (by assumption) he2; omega) | (exfalso; have he2 : i = _ := he; omega) | (exfalso; have he2 : _ = some i := he; have := ow_base (by assumption) he2; omega) | (exfalso; have := he.1; omega)))))⟩
theorem kept_walk (base b bm : Nat) (vs : Value) (S : Srv) (w0 : World) (hS : SrvAt base w0 b bm vs S) : Does Try.prog 15 #[.pointer (some ⟨b, 0, none⟩)] w0 (fun r w' => r = .int .i64 S.kept.length ∧ w' = w0) := by
  have hbk := hS.bk
  have hmp := hS.mp
  refine fn_of (n := 8) (args := [.pointer (some ⟨b, 0, none⟩)]) Try.func15 rfl rfl rfl ?_
  refine W_seq ?_
  refine W_region ?_
  refine L_run (.plain rfl) rfl rfl (r_assign (v := .int _ _) rfl) ?_
  refine L_nil ?_
  refine W_seq ?_
  refine W_region ?_
  refine L_run (.plain rfl) rfl rfl (r_move (v := .pointer _) rfl) ?_
  refine L_run (.plain rfl) rfl rfl (r_nilCheck rfl) ?_
  refine L_run (.plain rfl) rfl rfl (r_fieldb Try.underlying61 rfl (show _ = some 1 from rfl) rfl rfl (show _ = 3 from rfl)) ?_
  refine L_run (.plain rfl) rfl rfl (r_loadb rfl rfl (by (exact Bk.to (by assumption) (by (repeat (first | exact Sm.refl _ _ | (refine Sm.stepT (by assumption) (by intro hlt hsm; first | exact not_no | (intro he; have he2 : _ = some _ := he; have := own_base (by assumption) he2; omega) | (intro he; have he2 : _ = _ := he; omega) | (intro he; have he2 : _ = some _ := he; have := ow_base (by assumption) he2; omega) | (intro he; have := he.1; omega) | exact bk_not (by assumption) hsm rfl | exact mp_not (by assumption) hsm | exact bkm_not (by assumption) hsm rfl | (refine ownm_not ?_ hi hsm rfl <;> assumption) | (refine owm_not ?_ hi hsm rfl <;> assumption) | (refine own_not ?_ hi hsm rfl <;> assumption) | (refine ow_not ?_ hi hsm rfl <;> assumption) | (intro he; have he2 : _ = some _ := he; have := Ow.lt (by assumption) he2; omega) | (intro he; have he2 : _ = some _ := he; have := Ow.lt (by assumption) he2; have := own_base (by assumption) hi; omega) | (intro he; have he2 : _ = some _ := he; have := Ow.lt how he2; first | omega | (have := own_base (by assumption) hi; omega)) | (intro he; have he2 : _ = _ := he; have := Ow.lt how hi; omega) | (intro he; have he2 : _ = _ := he; have := own_base (by assumption) hi; omega) | (intro he; have he2 : _ = _ := he; have := ow_base (by assumption) hi; omega) | (intro he; have he2 : _ = _ := he; rw [he2] at hi; exact absurd hi (by assumption)) | (intro he; have he2 : _ = some _ := he; have h3 := own_lt (by assumption) he2; first | omega | (have h4 : _ = some _ := hi; simp [Value.ownBlock] at h4; omega)) | (intro he; have he2 : _ = some _ := he; have h3 := ow_base (by assumption) he2; have h4 : _ = some _ := hi; simp [Value.ownBlock] at h4; omega) | (intro he; have he2 : _ = some _ := he; exact absurd he2 (hsep _ hi)) | (intro he; first | exact absurd he (by assumption) | exact absurd he.symm (by assumption))) ?_)))))) (by first | assumption | (conv => lhs; simp only [List.getElem?_toArray, List.getElem?_cons_succ, List.getElem?_cons_zero]))) ?_
  refine L_run (.plain rfl) rfl rfl (r_lenMap Try.underlying59 rfl (by (first | assumption | exact Mp.to (by assumption) (by (repeat (first | exact Sm.refl _ _ | (refine Sm.stepT (by assumption) (by intro hlt hsm; first | exact not_no | (intro he; have he2 : _ = some _ := he; have := own_base (by assumption) he2; omega) | (intro he; have he2 : _ = _ := he; omega) | (intro he; have he2 : _ = some _ := he; have := ow_base (by assumption) he2; omega) | (intro he; have := he.1; omega) | exact bk_not (by assumption) hsm rfl | exact mp_not (by assumption) hsm | exact bkm_not (by assumption) hsm rfl | (refine ownm_not ?_ hi hsm rfl <;> assumption) | (refine owm_not ?_ hi hsm rfl <;> assumption) | (refine own_not ?_ hi hsm rfl <;> assumption) | (refine ow_not ?_ hi hsm rfl <;> assumption) | (intro he; have he2 : _ = some _ := he; have := Ow.lt (by assumption) he2; omega) | (intro he; have he2 : _ = some _ := he; have := Ow.lt (by assumption) he2; have := own_base (by assumption) hi; omega) | (intro he; have he2 : _ = some _ := he; have := Ow.lt how he2; first | omega | (have := own_base (by assumption) hi; omega)) | (intro he; have he2 : _ = _ := he; have := Ow.lt how hi; omega) | (intro he; have he2 : _ = _ := he; have := own_base (by assumption) hi; omega) | (intro he; have he2 : _ = _ := he; have := ow_base (by assumption) hi; omega) | (intro he; have he2 : _ = _ := he; rw [he2] at hi; exact absurd hi (by assumption)) | (intro he; have he2 : _ = some _ := he; have h3 := own_lt (by assumption) he2; first | omega | (have h4 : _ = some _ := hi; simp [Value.ownBlock] at h4; omega)) | (intro he; have he2 : _ = some _ := he; have h3 := ow_base (by assumption) he2; have h4 : _ = some _ := hi; simp [Value.ownBlock] at h4; omega) | (intro he; have he2 : _ = some _ := he; exact absurd he2 (hsep _ hi)) | (intro he; first | exact absurd he (by assumption) | exact absurd he.symm (by assumption))) ?_))))))) ?_
  refine L_run (.plain rfl) rfl rfl (r_assign (v := .int _ _) rfl) ?_
  refine L_nil ?_
  refine W_ret ?_
  refine ret1 (v := .int _ _) rfl rfl ?_
  exact ⟨rfl, rfl⟩
theorem life_walk (base b bm : Nat) (vs : Value) (S : Srv) (w0 : World) (hS : SrvAt base w0 b bm vs S) : Does Try.prog 17 #[.pointer (some ⟨b, 0, none⟩)] w0 (fun r w' => r = .int .u64 S.life ∧ w' = w0) := by
  have hbk := hS.bk
  refine fn_of (n := 7) (args := [.pointer (some ⟨b, 0, none⟩)]) Try.func17 rfl rfl rfl ?_
  refine W_seq ?_
  refine W_region ?_
  refine L_run (.plain rfl) rfl rfl (r_assign (v := .int _ _) rfl) ?_
  refine L_nil ?_
  refine W_seq ?_
  refine W_region ?_
  refine L_run (.plain rfl) rfl rfl (r_move (v := .pointer _) rfl) ?_
  refine L_run (.plain rfl) rfl rfl (r_nilCheck rfl) ?_
  refine L_run (.plain rfl) rfl rfl (r_fieldb Try.underlying61 rfl (show _ = some 1 from rfl) rfl rfl (show _ = 1 from rfl)) ?_
  refine L_run (.plain rfl) rfl rfl (r_loadb rfl rfl (by (exact Bk.to (by assumption) (by (repeat (first | exact Sm.refl _ _ | (refine Sm.stepT (by assumption) (by intro hlt hsm; first | exact not_no | (intro he; have he2 : _ = some _ := he; have := own_base (by assumption) he2; omega) | (intro he; have he2 : _ = _ := he; omega) | (intro he; have he2 : _ = some _ := he; have := ow_base (by assumption) he2; omega) | (intro he; have := he.1; omega) | exact bk_not (by assumption) hsm rfl | exact mp_not (by assumption) hsm | exact bkm_not (by assumption) hsm rfl | (refine ownm_not ?_ hi hsm rfl <;> assumption) | (refine owm_not ?_ hi hsm rfl <;> assumption) | (refine own_not ?_ hi hsm rfl <;> assumption) | (refine ow_not ?_ hi hsm rfl <;> assumption) | (intro he; have he2 : _ = some _ := he; have := Ow.lt (by assumption) he2; omega) | (intro he; have he2 : _ = some _ := he; have := Ow.lt (by assumption) he2; have := own_base (by assumption) hi; omega) | (intro he; have he2 : _ = some _ := he; have := Ow.lt how he2; first | omega | (have := own_base (by assumption) hi; omega)) | (intro he; have he2 : _ = _ := he; have := Ow.lt how hi; omega) | (intro he; have he2 : _ = _ := he; have := own_base (by assumption) hi; omega) | (intro he; have he2 : _ = _ := he; have := ow_base (by assumption) hi; omega) | (intro he; have he2 : _ = _ := he; rw [he2] at hi; exact absurd hi (by assumption)) | (intro he; have he2 : _ = some _ := he; have h3 := own_lt (by assumption) he2; first | omega | (have h4 : _ = some _ := hi; simp [Value.ownBlock] at h4; omega)) | (intro he; have he2 : _ = some _ := he; have h3 := ow_base (by assumption) he2; have h4 : _ = some _ := hi; simp [Value.ownBlock] at h4; omega) | (intro he; have he2 : _ = some _ := he; exact absurd he2 (hsep _ hi)) | (intro he; first | exact absurd he (by assumption) | exact absurd he.symm (by assumption))) ?_)))))) (by first | assumption | (conv => lhs; simp only [List.getElem?_toArray, List.getElem?_cons_succ, List.getElem?_cons_zero]))) ?_
  refine L_run (.plain rfl) rfl rfl (r_assign (v := .int _ _) rfl) ?_
  refine L_nil ?_
  refine W_ret ?_
  refine ret1 (v := .int _ _) rfl rfl ?_
  exact ⟨rfl, rfl⟩
theorem floor_walk (base b bm : Nat) (vs : Value) (S : Srv) (w0 : World) (hS : SrvAt base w0 b bm vs S) : Does Try.prog 18 #[.pointer (some ⟨b, 0, none⟩)] w0 (fun r w' => r = .int .u64 S.floor ∧ w' = w0) := by
  have hbk := hS.bk
  refine fn_of (n := 7) (args := [.pointer (some ⟨b, 0, none⟩)]) Try.func18 rfl rfl rfl ?_
  refine W_seq ?_
  refine W_region ?_
  refine L_run (.plain rfl) rfl rfl (r_assign (v := .int _ _) rfl) ?_
  refine L_nil ?_
  refine W_seq ?_
  refine W_region ?_
  refine L_run (.plain rfl) rfl rfl (r_move (v := .pointer _) rfl) ?_
  refine L_run (.plain rfl) rfl rfl (r_nilCheck rfl) ?_
  refine L_run (.plain rfl) rfl rfl (r_fieldb Try.underlying61 rfl (show _ = some 1 from rfl) rfl rfl (show _ = 2 from rfl)) ?_
  refine L_run (.plain rfl) rfl rfl (r_loadb rfl rfl (by (exact Bk.to (by assumption) (by (repeat (first | exact Sm.refl _ _ | (refine Sm.stepT (by assumption) (by intro hlt hsm; first | exact not_no | (intro he; have he2 : _ = some _ := he; have := own_base (by assumption) he2; omega) | (intro he; have he2 : _ = _ := he; omega) | (intro he; have he2 : _ = some _ := he; have := ow_base (by assumption) he2; omega) | (intro he; have := he.1; omega) | exact bk_not (by assumption) hsm rfl | exact mp_not (by assumption) hsm | exact bkm_not (by assumption) hsm rfl | (refine ownm_not ?_ hi hsm rfl <;> assumption) | (refine owm_not ?_ hi hsm rfl <;> assumption) | (refine own_not ?_ hi hsm rfl <;> assumption) | (refine ow_not ?_ hi hsm rfl <;> assumption) | (intro he; have he2 : _ = some _ := he; have := Ow.lt (by assumption) he2; omega) | (intro he; have he2 : _ = some _ := he; have := Ow.lt (by assumption) he2; have := own_base (by assumption) hi; omega) | (intro he; have he2 : _ = some _ := he; have := Ow.lt how he2; first | omega | (have := own_base (by assumption) hi; omega)) | (intro he; have he2 : _ = _ := he; have := Ow.lt how hi; omega) | (intro he; have he2 : _ = _ := he; have := own_base (by assumption) hi; omega) | (intro he; have he2 : _ = _ := he; have := ow_base (by assumption) hi; omega) | (intro he; have he2 : _ = _ := he; rw [he2] at hi; exact absurd hi (by assumption)) | (intro he; have he2 : _ = some _ := he; have h3 := own_lt (by assumption) he2; first | omega | (have h4 : _ = some _ := hi; simp [Value.ownBlock] at h4; omega)) | (intro he; have he2 : _ = some _ := he; have h3 := ow_base (by assumption) he2; have h4 : _ = some _ := hi; simp [Value.ownBlock] at h4; omega) | (intro he; have he2 : _ = some _ := he; exact absurd he2 (hsep _ hi)) | (intro he; first | exact absurd he (by assumption) | exact absurd he.symm (by assumption))) ?_)))))) (by first | assumption | (conv => lhs; simp only [List.getElem?_toArray, List.getElem?_cons_succ, List.getElem?_cons_zero]))) ?_
  refine L_run (.plain rfl) rfl rfl (r_assign (v := .int _ _) rfl) ?_
  refine L_nil ?_
  refine W_ret ?_
  refine ret1 (v := .int _ _) rfl rfl ?_
  exact ⟨rfl, rfl⟩
theorem clone_walk (v : Value) (L : List (Int × Int)) (w0 : World) (hv : Sl w0 v 2 L.length (cells2 L)) (hl : L.length ≤ 100000) : Does Try.prog 30 #[v] w0 (fun r w' => ∃ v', r = v' ∧ Sl w' v' 2 L.length (cells2 L) ∧ Nw w0 w') := by
  refine fn_of (n := 8) (args := [v]) Try.func30 rfl rfl rfl ?_
  refine W_seq ?_
  refine W_region ?_
  refine L_run (.plain rfl) rfl rfl (r_assign (by conv => lhs; whnf)) ?_
  refine L_nil ?_
  refine W_seq ?_
  refine W_seq ?_
  refine W_region ?_
  refine L_run (.plain rfl) rfl rfl (r_move (by conv => lhs; whnf)) ?_
  refine L_run (.plain rfl) rfl rfl (r_eqnilSl Try.underlying48 (by conv => lhs; whnf) rfl (by (exact Sl.to (by first | assumption | exact Sl.own (by assumption) | exact Mu.sl (by assumption) | exact Ow.sl (by assumption)) (fun i hi => by (repeat (first | exact Sm.refl _ _ | (refine Sm.stepT (by assumption) (by intro hlt hsm; first | exact not_no | (intro he; have he2 : _ = some _ := he; have := own_base (by assumption) he2; omega) | (intro he; have he2 : _ = _ := he; omega) | (intro he; have he2 : _ = some _ := he; have := ow_base (by assumption) he2; omega) | (intro he; have := he.1; omega) | exact bk_not (by assumption) hsm rfl | exact mp_not (by assumption) hsm | exact bkm_not (by assumption) hsm rfl | (refine ownm_not ?_ hi hsm rfl <;> assumption) | (refine owm_not ?_ hi hsm rfl <;> assumption) | (refine own_not ?_ hi hsm rfl <;> assumption) | (refine ow_not ?_ hi hsm rfl <;> assumption) | (intro he; have he2 : _ = some _ := he; have := Ow.lt (by assumption) he2; omega) | (intro he; have he2 : _ = some _ := he; have := Ow.lt (by assumption) he2; have := own_base (by assumption) hi; omega) | (intro he; have he2 : _ = some _ := he; have := Ow.lt how he2; first | omega | (have := own_base (by assumption) hi; omega)) | (intro he; have he2 : _ = _ := he; have := Ow.lt how hi; omega) | (intro he; have he2 : _ = _ := he; have := own_base (by assumption) hi; omega) | (intro he; have he2 : _ = _ := he; have := ow_base (by assumption) hi; omega) | (intro he; have he2 : _ = _ := he; rw [he2] at hi; exact absurd hi (by assumption)) | (intro he; have he2 : _ = some _ := he; have h3 := own_lt (by assumption) he2; first | omega | (have h4 : _ = some _ := hi; simp [Value.ownBlock] at h4; omega)) | (intro he; have he2 : _ = some _ := he; have h3 := ow_base (by assumption) he2; have h4 : _ = some _ := hi; simp [Value.ownBlock] at h4; omega) | (intro he; have he2 : _ = some _ := he; exact absurd he2 (hsep _ hi)) | (intro he; first | exact absurd he (by assumption) | exact absurd he.symm (by assumption))) ?_))))))) ?_
  refine L_nil ?_
  refine W_bool rfl (fun h4 => ?_) (fun h4 => ?_)
  · refine W_seq ?_
    refine W_region ?_
    refine L_run (.plain rfl) rfl rfl (r_assign (by conv => lhs; whnf)) ?_
    refine L_nil ?_
    refine W_ret ?_
    refine ret1 rfl (by conv => lhs; whnf) ?_
    first
      | (obtain ⟨hq, hq2⟩ := nilS_true hv (by assumption)
         refine ⟨_, rfl, ?_, by (repeat (first | exact Ch.refl _ | assumption | (refine Ch.fresh ?_ (by assumption) (by intro i hi he; first | exact he | exact (not_no he).elim | exact Or.inl he | exact Or.inr (Or.inl he) | exact Or.inr (Or.inr he) | (exfalso; have he2 : _ = some i := he; have := own_base (by assumption) he2; omega) | (exfalso; have he2 : i = _ := he; omega) | (exfalso; have he2 : _ = some i := he; have := ow_base (by assumption) he2; omega) | (exfalso; have := he.1; omega)))))⟩
         have : L = [] := List.eq_nil_of_length_eq_zero hq2
         subst this
         exact Sl.nil _ _)
      | (refine ⟨_, rfl, ?_, by (repeat (first | exact Ch.refl _ | assumption | (refine Ch.fresh ?_ (by assumption) (by intro i hi he; first | exact he | exact (not_no he).elim | exact Or.inl he | exact Or.inr (Or.inl he) | exact Or.inr (Or.inr he) | (exfalso; have he2 : _ = some i := he; have := own_base (by assumption) he2; omega) | (exfalso; have he2 : i = _ := he; omega) | (exfalso; have he2 : _ = some i := he; have := ow_base (by assumption) he2; omega) | (exfalso; have := he.1; omega)))))⟩
         have := ho7.sl
         rw [Nat.zero_add, List.nil_append] at this
         exact this)
  · refine W_skip ?_
    refine W_seq ?_
    refine W_region ?_
    refine L_build0 (sz := 2) Try.underlying48 rfl (.plain rfl) rfl (fun v5 w1 ho5 eb1 nl5 hs1 c1 => ?_)
    refine L_run (.plain rfl) rfl rfl (r_move (by conv => lhs; whnf)) ?_
    refine L_apow Try.underlying48 pair_info rfl (by decide) (.plain rfl) rfl (by conv => lhs; whnf) (by conv => lhs; whnf) (Ow.of (by (exact Own.to (by assumption) (fun i hi => by (repeat (first | exact Sm.refl _ _ | (refine Sm.stepT (by assumption) (by intro hlt hsm; first | exact not_no | (intro he; have he2 : _ = some _ := he; have := own_base (by assumption) he2; omega) | (intro he; have he2 : _ = _ := he; omega) | (intro he; have he2 : _ = some _ := he; have := ow_base (by assumption) he2; omega) | (intro he; have := he.1; omega) | exact bk_not (by assumption) hsm rfl | exact mp_not (by assumption) hsm | exact bkm_not (by assumption) hsm rfl | (refine ownm_not ?_ hi hsm rfl <;> assumption) | (refine owm_not ?_ hi hsm rfl <;> assumption) | (refine own_not ?_ hi hsm rfl <;> assumption) | (refine ow_not ?_ hi hsm rfl <;> assumption) | (intro he; have he2 : _ = some _ := he; have := Ow.lt (by assumption) he2; omega) | (intro he; have he2 : _ = some _ := he; have := Ow.lt (by assumption) he2; have := own_base (by assumption) hi; omega) | (intro he; have he2 : _ = some _ := he; have := Ow.lt how he2; first | omega | (have := own_base (by assumption) hi; omega)) | (intro he; have he2 : _ = _ := he; have := Ow.lt how hi; omega) | (intro he; have he2 : _ = _ := he; have := own_base (by assumption) hi; omega) | (intro he; have he2 : _ = _ := he; have := ow_base (by assumption) hi; omega) | (intro he; have he2 : _ = _ := he; rw [he2] at hi; exact absurd hi (by assumption)) | (intro he; have he2 : _ = some _ := he; have h3 := own_lt (by assumption) he2; first | omega | (have h4 : _ = some _ := hi; simp [Value.ownBlock] at h4; omega)) | (intro he; have he2 : _ = some _ := he; have h3 := ow_base (by assumption) he2; have h4 : _ = some _ := hi; simp [Value.ownBlock] at h4; omega) | (intro he; have he2 : _ = some _ := he; exact absurd he2 (hsep _ hi)) | (intro he; first | exact absurd he (by assumption) | exact absurd he.symm (by assumption))) ?_))))))) (by (exact Sl.to (by first | assumption | exact Sl.own (by assumption) | exact Mu.sl (by assumption) | exact Ow.sl (by assumption)) (fun i hi => by (repeat (first | exact Sm.refl _ _ | (refine Sm.stepT (by assumption) (by intro hlt hsm; first | exact not_no | (intro he; have he2 : _ = some _ := he; have := own_base (by assumption) he2; omega) | (intro he; have he2 : _ = _ := he; omega) | (intro he; have he2 : _ = some _ := he; have := ow_base (by assumption) he2; omega) | (intro he; have := he.1; omega) | exact bk_not (by assumption) hsm rfl | exact mp_not (by assumption) hsm | exact bkm_not (by assumption) hsm rfl | (refine ownm_not ?_ hi hsm rfl <;> assumption) | (refine owm_not ?_ hi hsm rfl <;> assumption) | (refine own_not ?_ hi hsm rfl <;> assumption) | (refine ow_not ?_ hi hsm rfl <;> assumption) | (intro he; have he2 : _ = some _ := he; have := Ow.lt (by assumption) he2; omega) | (intro he; have he2 : _ = some _ := he; have := Ow.lt (by assumption) he2; have := own_base (by assumption) hi; omega) | (intro he; have he2 : _ = some _ := he; have := Ow.lt how he2; first | omega | (have := own_base (by assumption) hi; omega)) | (intro he; have he2 : _ = _ := he; have := Ow.lt how hi; omega) | (intro he; have he2 : _ = _ := he; have := own_base (by assumption) hi; omega) | (intro he; have he2 : _ = _ := he; have := ow_base (by assumption) hi; omega) | (intro he; have he2 : _ = _ := he; rw [he2] at hi; exact absurd hi (by assumption)) | (intro he; have he2 : _ = some _ := he; have h3 := own_lt (by assumption) he2; first | omega | (have h4 : _ = some _ := hi; simp [Value.ownBlock] at h4; omega)) | (intro he; have he2 : _ = some _ := he; have h3 := ow_base (by assumption) he2; have h4 : _ = some _ := hi; simp [Value.ownBlock] at h4; omega) | (intro he; have he2 : _ = some _ := he; exact absurd he2 (hsep _ hi)) | (intro he; first | exact absurd he (by assumption) | exact absurd he.symm (by assumption))) ?_)))))) (cells2_one L) (by unfold maxLen; omega) (by omega) (by omega) (fun v7 w2 ho7 c2 hob7 => ?_)
    have hz2 := c2.size
    refine L_run (.plain rfl) rfl rfl (r_assign (by conv => lhs; whnf)) ?_
    refine L_nil ?_
    refine W_ret ?_
    refine ret1 rfl (by conv => lhs; whnf) ?_
    first
      | (obtain ⟨hq, hq2⟩ := nilS_true hv (by assumption)
         refine ⟨_, rfl, ?_, by (repeat (first | exact Ch.refl _ | assumption | (refine Ch.fresh ?_ (by assumption) (by intro i hi he; first | exact he | exact (not_no he).elim | exact Or.inl he | exact Or.inr (Or.inl he) | exact Or.inr (Or.inr he) | (exfalso; have he2 : _ = some i := he; have := own_base (by assumption) he2; omega) | (exfalso; have he2 : i = _ := he; omega) | (exfalso; have he2 : _ = some i := he; have := ow_base (by assumption) he2; omega) | (exfalso; have := he.1; omega)))))⟩
         have : L = [] := List.eq_nil_of_length_eq_zero hq2
         subst this
         exact Sl.nil _ _)
      | (refine ⟨_, rfl, ?_, by (repeat (first | exact Ch.refl _ | assumption | (refine Ch.fresh ?_ (by assumption) (by intro i hi he; first | exact he | exact (not_no he).elim | exact Or.inl he | exact Or.inr (Or.inl he) | exact Or.inr (Or.inr he) | (exfalso; have he2 : _ = some i := he; have := own_base (by assumption) he2; omega) | (exfalso; have he2 : i = _ := he; omega) | (exfalso; have he2 : _ = some i := he; have := ow_base (by assumption) he2; omega) | (exfalso; have := he.1; omega)))))⟩
         have := ho7.sl
         rw [Nat.zero_add, List.nil_append] at this
         exact this)
theorem started_walk (base b bm : Nat) (vs : Value) (S : Srv) (w0 : World) (hS : SrvAt base w0 b bm vs S) (hl : S.st.length ≤ 100000) : Does Try.prog 19 #[.pointer (some ⟨b, 0, none⟩)] w0 (fun r w' => ∃ v', r = v' ∧ Sl w' v' 2 S.st.length (cells2 S.st) ∧ Nw w0 w') := by
  have hbk := hS.bk
  have hv := hS.ow.sl
  refine fn_of (n := 8) (args := [.pointer (some ⟨b, 0, none⟩)]) Try.func19 rfl rfl rfl ?_
  refine W_seq ?_
  refine W_region ?_
  refine L_run (.plain rfl) rfl rfl (r_assign (by conv => lhs; whnf)) ?_
  refine L_nil ?_
  refine W_seq ?_
  refine W_region ?_
  refine L_run (.plain rfl) rfl rfl (r_move (v := .pointer _) rfl) ?_
  refine L_run (.plain rfl) rfl rfl (r_nilCheck rfl) ?_
  refine L_run (.plain rfl) rfl rfl (r_fieldb Try.underlying61 rfl (show _ = some 1 from rfl) rfl rfl (show _ = 4 from rfl)) ?_
  refine L_run (.plain rfl) rfl rfl (r_loadb rfl rfl (by (exact Bk.to (by assumption) (by (repeat (first | exact Sm.refl _ _ | (refine Sm.stepT (by assumption) (by intro hlt hsm; first | exact not_no | (intro he; have he2 : _ = some _ := he; have := own_base (by assumption) he2; omega) | (intro he; have he2 : _ = _ := he; omega) | (intro he; have he2 : _ = some _ := he; have := ow_base (by assumption) he2; omega) | (intro he; have := he.1; omega) | exact bk_not (by assumption) hsm rfl | exact mp_not (by assumption) hsm | exact bkm_not (by assumption) hsm rfl | (refine ownm_not ?_ hi hsm rfl <;> assumption) | (refine owm_not ?_ hi hsm rfl <;> assumption) | (refine own_not ?_ hi hsm rfl <;> assumption) | (refine ow_not ?_ hi hsm rfl <;> assumption) | (intro he; have he2 : _ = some _ := he; have := Ow.lt (by assumption) he2; omega) | (intro he; have he2 : _ = some _ := he; have := Ow.lt (by assumption) he2; have := own_base (by assumption) hi; omega) | (intro he; have he2 : _ = some _ := he; have := Ow.lt how he2; first | omega | (have := own_base (by assumption) hi; omega)) | (intro he; have he2 : _ = _ := he; have := Ow.lt how hi; omega) | (intro he; have he2 : _ = _ := he; have := own_base (by assumption) hi; omega) | (intro he; have he2 : _ = _ := he; have := ow_base (by assumption) hi; omega) | (intro he; have he2 : _ = _ := he; rw [he2] at hi; exact absurd hi (by assumption)) | (intro he; have he2 : _ = some _ := he; have h3 := own_lt (by assumption) he2; first | omega | (have h4 : _ = some _ := hi; simp [Value.ownBlock] at h4; omega)) | (intro he; have he2 : _ = some _ := he; have h3 := ow_base (by assumption) he2; have h4 : _ = some _ := hi; simp [Value.ownBlock] at h4; omega) | (intro he; have he2 : _ = some _ := he; exact absurd he2 (hsep _ hi)) | (intro he; first | exact absurd he (by assumption) | exact absurd he.symm (by assumption))) ?_)))))) (by first | assumption | (conv => lhs; simp only [List.getElem?_toArray, List.getElem?_cons_succ, List.getElem?_cons_zero]))) ?_
  refine L_call (.plain rfl) rfl rfl (r_call Try.func30 rfl rfl rfl (by rfl)) (clone_walk vs S.st _ hv hl) ?_
  rintro v7 w1 ⟨v', rfl, hv', c1⟩
  have hz1 := c1.size
  refine L_run (.plain rfl) rfl rfl (r_assign (by conv => lhs; whnf)) ?_
  refine L_nil ?_
  refine W_ret ?_
  refine ret1 rfl (by conv => lhs; whnf) ?_
  exact ⟨_, rfl, hv', by (repeat (first | exact Ch.refl _ | assumption | (refine Ch.fresh ?_ (by assumption) (by intro i hi he; first | exact he | exact (not_no he).elim | exact Or.inl he | exact Or.inr (Or.inl he) | exact Or.inr (Or.inr he) | (exfalso; have he2 : _ = some i := he; have := own_base (by assumption) he2; omega) | (exfalso; have he2 : i = _ := he; omega) | (exfalso; have he2 : _ = some i := he; have := ow_base (by assumption) he2; omega) | (exfalso; have := he.1; omega)))))⟩
end Go.Proofs.Ythpclaoniljfbaa

