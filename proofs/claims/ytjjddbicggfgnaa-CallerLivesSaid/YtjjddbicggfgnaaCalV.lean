/- Two callers, alike but for their lives, plainly. -/
import Derived.Test.YtjjddbicggfgnaaCalQ
import Derived.Test.YtjjddbicggfgnaaCalG
namespace Go.Proofs.Ytjjddbicggfgnaa
open Go Go.RowKit
set_option linter.unusedVariables false
set_option linter.unusedSimpArgs false
abbrev reM (b : Int) (m : Msg) : Msg := { m with life := b }
abbrev reO (b : Int) (o : Opn) : Opn := { o with m := reM b o.m }
def reL (b : Int) (L : List (Int × Opn)) : List (Int × Opn) := L.map fun p => (p.1, reO b p.2)
def reC (b : Int) (C : Cal) : Cal := { C with life := b, op := reL b C.op, out := C.out.map (reM b) }
variable {C : Cal} {b k : Int} {o : Opn}
theorem mget_re (L : List (Int × Opn)) (b k : Int) : mget (reL b L) k = (mget L k).map (reO b) := by
  induction L with
  | nil => rfl
  | cons p L ih =>
    unfold mget reL at *
    rw [List.map_cons]
    by_cases e : p.1 = k
    · rw [List.find?_cons_of_pos (by simpa using e), List.find?_cons_of_pos (by simpa using e)]; rfl
    · rw [List.find?_cons_of_neg (by simpa using e), List.find?_cons_of_neg (by simpa using e)]; exact ih
theorem mupd_re (L : List (Int × Opn)) (b k : Int) (o : Opn) : mupd (reL b L) k (reO b o) = reL b (mupd L k o) := by
  unfold mupd reL
  rw [List.map_map, List.map_map]
  apply List.map_congr_left
  intro p _
  simp only [Function.comp]
  by_cases e : p.1 = k
  · rw [if_pos e, if_pos e]
  · rw [if_neg e, if_neg e]
theorem mdel_re (L : List (Int × Opn)) (b k : Int) : mdel (reL b L) k = reL b (mdel L k) := by
  unfold mdel reL
  rw [List.filter_map]; rfl
theorem below_re (C : Cal) (b : Int) : belowC (reC b C) = belowC C := by
  unfold belowC reC reL
  cases C.op <;> rfl
theorem keys_re (C : Cal) (b : Int) : (reC b C).op.map (·.1) = C.op.map (·.1) := by
  show ((C.op.map _).map _) = _
  rw [List.map_map]; rfl
theorem ask_re (C : Cal) (b k : Int) (o : Opn) : ask1 (reC b C) k (reO b o) = reC b (ask1 C k o) := by
  unfold ask1
  rw [below_re]
  have e : askO (belowC C) (reO b o) = reO b (askO (belowC C) o) := rfl
  rw [e]
  show ({ reC b C with op := mupd (reL b C.op) k _, out := C.out.map (reM b) ++ [_] } : Cal) = reC b { C with op := mupd C.op k _, out := C.out ++ [_] }
  rw [mupd_re]
  unfold reC
  simp only [List.map_append, List.map_cons, List.map_nil]
theorem end_re (C : Cal) (b k way : Int) (body : ByteArray) : endC (reC b C) k way body = reC b (endC C k way body) := by
  unfold endC
  show ({ reC b C with op := mdel (reL b C.op) k, res := _ } : Cal) = _
  rw [mdel_re]; rfl
theorem tick1_re (C : Cal) (b k : Int) : tick1 (reC b C) k = reC b (tick1 C k) := by
  have hg : mget (reC b C).op k = (mget C.op k).map (reO b) := mget_re C.op b k
  cases ho : mget C.op k with
  | none =>
    rw [ho] at hg
    have e1 : tick1 C k = C := by unfold tick1; rw [ho]
    have e2 : tick1 (reC b C) k = reC b C := by unfold tick1; rw [hg]; rfl
    rw [e1, e2]
  | some o =>
    rw [ho] at hg
    have hg' : mget (reC b C).op k = some (reO b o) := hg
    by_cases h1 : o.waited + 1 < C.wait
    · rw [tick1_wait ho h1, tick1_wait hg' h1]
      show ({ reC b C with op := mupd (reL b C.op) k (reO b (waitO o)) } : Cal) = _
      rw [mupd_re]; rfl
    · by_cases h2 : C.most ≤ o.asks
      · rw [tick1_end ho h1 h2, tick1_end hg' h1 h2, end_re]
      · rw [tick1_ask ho h1 h2, tick1_ask hg' h1 h2, ask_re]
theorem ticks_re (b : Int) (l : List Int) : ∀ C : Cal, l.foldl tick1 (reC b C) = reC b (l.foldl tick1 C) := by
  induction l with
  | nil => exact fun C => rfl
  | cons k l ih => exact fun C => by rw [List.foldl_cons, List.foldl_cons, tick1_re, ih]
theorem tick_re (C : Cal) (b : Int) : tick (reC b C) = reC b (tick C) := by
  unfold tick
  rw [keys_re, ticks_re]
theorem check_re {m : Msg} (h : m.life ≠ 0) (hb : b ≠ 0) : checkC (reM b m) = checkC m := by
  have e : rightP (reM b m) ↔ rightP m := by
    unfold rightP
    exact ⟨fun q => ⟨h, q.2⟩, fun q => ⟨hb, q.2⟩⟩
  unfold checkC
  by_cases h1 : 8192 < m.body.size
  · rw [if_pos h1, if_pos h1]
  · rw [if_neg h1, if_neg h1]
    by_cases h2 : rightP m
    · rw [if_pos h2, if_pos (e.2 h2)]
    · rw [if_neg h2, if_neg (fun q => h2 (e.1 q))]
theorem call_re (C : Cal) (hl : C.life ≠ 0) (hb : b ≠ 0) (object : Int) (method body : ByteArray) : (callC (reC b C) object method body).1 = reC b (callC C object method body).1 ∧ (callC (reC b C) object method body).2 = (callC C object method body).2 := by
  have hm : newM (reC b C) object method body = reM b (newM C object method body) := rfl
  have hlen : (reC b C).op.length = C.op.length := by show (C.op.map _).length = _; rw [List.length_map]
  have hc : checkC (newM (reC b C) object method body) = checkC (newM C object method body) := by rw [hm]; exact check_re hl hb
  by_cases h1 : 1024 ≤ C.op.length
  · rw [callC_full h1, callC_full (C := reC b C) (by omega)]; exact ⟨rfl, rfl⟩
  · by_cases h2 : checkC (newM C object method body) = 0
    · rw [callC_ok h1 h2, callC_ok (C := reC b C) (by omega) (hc.trans h2)]
      refine ⟨?_, rfl⟩
      have := ask_re (insC C object method body) b (C.last + 1) ⟨newM C object method body, 0, 0⟩
      rw [← this]
      have e : insC (reC b C) object method body = reC b (insC C object method body) := by
        show ({ reC b C with last := C.last + 1, op := reL b C.op ++ [_] } : Cal) = reC b { C with last := C.last + 1, op := C.op ++ [_] }
        unfold reC reL
        simp only [List.map_append, List.map_cons, List.map_nil]
        rfl
      rw [← e]; rfl
    · rw [callC_bad h1 h2, callC_bad (C := reC b C) (by omega) (by rw [hc]; exact h2), hc]; exact ⟨rfl, rfl⟩
theorem recv_re {a : Int} (C : Cal) (hl : C.life = a) (ha : a ≠ 0) (hb : b ≠ 0) (m : Msg) : (recvC (reC b C) { m with life := b }).1 = reC b (recvC C { m with life := a }).1 ∧ (recvC (reC b C) { m with life := b }).2 = (recvC C { m with life := a }).2 := by
  have hg : mget (reC b C).op m.seq = (mget C.op m.seq).map (reO b) := mget_re C.op b m.seq
  have hc : checkC { m with life := b } = checkC { m with life := a } := check_re (m := { m with life := a }) ha hb
  by_cases h : mget C.op m.seq = none ∨ m.kind ≠ 1 ∨ a ≠ C.life ∨ checkC { m with life := a } ≠ 0
  · rw [recv_no (m := { m with life := a }) h, recv_no (C := reC b C) (m := { m with life := b }) (by
      rcases h with q | q | q | q
      · left; show mget (reC b C).op m.seq = none; rw [hg, q]; rfl
      · exact .inr (.inl q)
      · exact absurd hl.symm q
      · exact .inr (.inr (.inr (by rw [hc]; exact q))))]
    exact ⟨rfl, rfl⟩
  · rw [recv_yes (m := { m with life := a }) h, recv_yes (C := reC b C) (m := { m with life := b }) (by
      rintro (q | q | q | q)
      · apply h; left
        have q' : mget (reC b C).op m.seq = none := q
        rw [hg] at q'
        cases hm : mget C.op m.seq with
        | none => rfl
        | some o => rw [hm] at q'; cases q'
      · exact h (.inr (.inl q))
      · exact q rfl
      · exact h (.inr (.inr (.inr (by rw [← hc]; exact q)))))]
    exact ⟨end_re C b m.seq m.way m.body, rfl⟩
theorem out0_re (C : Cal) (b : Int) : ({ reC b C with out := [] } : Cal) = reC b { C with out := [] } := rfl
theorem cells_life (L : List Msg) (b : Int) (k : Nat) (h : k < L.length) : (cellsM ((L.take k).map (reM b) ++ L.drop k)).set (k * 8 + 1) (.int .u64 b) = cellsM ((L.take (k + 1)).map (reM b) ++ L.drop (k + 1)) := by
  have hl : (cellsM ((L.take k).map (reM b))).length = k * 8 := by rw [cellsM_length, List.length_map, List.length_take, Nat.min_eq_left (Nat.le_of_lt h)]
  rw [cellsM_append, List.drop_eq_getElem_cons h, List.set_append_right _ _ (by omega), hl, show k * 8 + 1 - k * 8 = 1 by omega]
  rw [List.take_succ_eq_append_getElem h, List.map_append, cellsM_append, cellsM_append, List.append_assoc]
  congr 1
end Go.Proofs.Ytjjddbicggfgnaa

