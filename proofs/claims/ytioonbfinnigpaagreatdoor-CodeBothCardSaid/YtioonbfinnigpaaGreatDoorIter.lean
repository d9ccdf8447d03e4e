/- Loops over maps and over texts: the iterators; comparing structs of flat fields; over any program. -/
import Derived.Test.YtioonbfinnigpaaGreatDoorMap
import Derived.Laws.IdiomRangeMap
import Derived.Laws.RangeAny
import Derived.Laws.StructEq
import Derived.ChangeKeysEq
namespace Go.Proofs.YtioonbfinnigpaaGreatDoor
open Go Go.RowKit Go.MapKept
set_option linter.unusedVariables false
set_option linter.unusedSimpArgs false
theorem nodup_len {α : Type} : ∀ (l m : List α), l.Nodup → (∀ x ∈ l, x ∈ m) → l.length ≤ m.length
  | [], _, _, _ => Nat.zero_le _
  | x :: l, m, hn, hs => by
    obtain ⟨a, b, rfl⟩ := List.append_of_mem (hs x List.mem_cons_self)
    rw [List.nodup_cons] at hn
    have := nodup_len l (a ++ b) hn.2 fun y hy => by
      have h := hs y (List.mem_cons_of_mem _ hy)
      rw [List.mem_append, List.mem_cons] at h
      rw [List.mem_append]
      rcases h with h | rfl | h
      · exact .inl h
      · exact absurd hy hn.1
      · exact .inr h
    simp only [List.length_append, List.length_cons] at this ⊢
    omega
section map
variable {K V : Type} (ke : K → Value) (ve : V → Value)
/-- An iterator over a map: what it has handed out. -/
def Itm (w : World) (bi bm : Nat) (L D : List (K × V)) : Prop :=
  ∃ (es : Array MapEntry) (ck : Nat) (seen : Array Nat) (S : List MapEntry), w.heap[bm]? = some (.map es ck) ∧ Stamped es ck ∧ es.toList.map (fun e => (e.key, e.val)) = L.map (fun p => (ke p.1, ve p.2)) ∧ w.heap[bi]? = some (.mapIter (some bm) ck seen ck) ∧
    seen.toList = S.map (·.born) ∧ (∀ e ∈ S, e ∈ es.toList) ∧ S.map (fun e => (e.key, e.val)) = D.map (fun p => (ke p.1, ve p.2)) ∧ (∀ p ∈ D, p ∈ L) ∧ D.Nodup
variable {ke : K → Value} {ve : V → Value} {w w' : World} {bi bm : Nat} {L D : List (K × V)}
theorem Itm.ch {S : Nat → Prop} (h : Itm ke ve w bi bm L D) (c : Ch S w w') (h1 : ¬ S bi) (h2 : ¬ S bm) : Itm ke ve w' bi bm L D := by
  obtain ⟨es, ck, seen, Q, k1, k2, k3, k4, k5⟩ := h
  exact ⟨es, ck, seen, Q, c.get h2 k1, k2, k3, c.get h1 k4, k5⟩
theorem Itm.lt (h : Itm ke ve w bi bm L D) : bi < w.heap.size := by obtain ⟨_, _, _, _, _, _, _, h, _⟩ := h; exact lt_of_block h
theorem Itm.to (h : Itm ke ve w bi bm L D) (c1 : Sm w w' bi) (c2 : Sm w w' bm) : Itm ke ve w' bi bm L D := by
  obtain ⟨es, ck, seen, Q, k1, k2, k3, k4, k5⟩ := h
  exact ⟨es, ck, seen, Q, (c2.2 (lt_of_block k1)).trans k1, k2, k3, (c1.2 (lt_of_block k4)).trans k4, k5⟩
theorem Itm.mp (h : Itm ke ve w bi bm L D) : Mp ke ve w bm L := by
  obtain ⟨es, ck, seen, Q, k1, k2, k3, _⟩ := h
  exact ⟨es, ck, k1, k2, k3⟩
theorem Itm.le (h : Itm ke ve w bi bm L D) : D.length ≤ L.length := by
  obtain ⟨es, ck, seen, Q, k1, k2, k3, k4, k5, k6, k7, k8, k9⟩ := h
  exact nodup_len D L k9 k8
theorem Itm.sub (h : Itm ke ve w bi bm L D) : ∀ p ∈ D, p ∈ L := by
  obtain ⟨es, ck, seen, Q, k1, k2, k3, k4, k5, k6, k7, k8, k9⟩ := h
  exact k8
theorem Itm.nodup (h : Itm ke ve w bi bm L D) : D.Nodup := by
  obtain ⟨es, ck, seen, Q, k1, k2, k3, k4, k5, k6, k7, k8, k9⟩ := h
  exact k9
theorem Itm.ne (h : Itm ke ve w bi bm L D) : bi ≠ bm := by
  obtain ⟨es, ck, seen, Q, k1, k2, k3, k4, _⟩ := h
  rintro rfl
  rw [k1] at k4; cases k4
theorem Itm.ne_bk {j : Nat} {cs : Array Value} {t : TypeId} (h : Itm ke ve w bi bm L D) (h' : Bk w j cs t) : bi ≠ j := by
  obtain ⟨es, ck, seen, Q, k1, k2, k3, k4, _⟩ := h
  rintro rfl
  obtain ⟨_, h2, _⟩ := h'
  rw [k4] at h2; cases h2
end map
section ops
variable {K V : Type} {ke : K → Value} {ve : V → Value}
variable {P : Program} {n : Nat} {ops : Array Oper} {rest : List Oper} {N : Cn} {w : World} {f : Fr} {d : Tmp} {ty : TypeId} {pos : String} {af : Array Edge} {g : Option (Nat × Bool)} {dst : Option Tmp} {bi bm : Nat} {L D : List (K × V)}
theorem r_ext1_0 {x : Operand} {a : Value} (hx : ev f x = .tuple #[a]) : (execOp (ev f) ⟨dst, .extract x 0, ty, pos, af, g⟩).run P w = .ok (.value a) w := r_extract hx rfl
theorem L_rangem {x : Operand} {t kt e : TypeId} (hu : P.underlying t = some (.map kt e)) (hw : Wants ops f ⟨some d, .range t x, ty, pos, af, g⟩) (hn : Nat.blt d n = true) (hx : ev f x = .map (some bm)) (h : Mp ke ve w bm L)
    (hc : ∀ w1 bi, Itm ke ve w1 bi bm L [] → bi = w.heap.size → w1.heap.size = bi + 1 → Nw w w1 → Wl P n ops rest N (upd f d (.pointer (some ⟨bi, 0, none⟩))) w1) : Wl P n ops (⟨some d, .range t x, ty, pos, af, g⟩ :: rest) N f w := by
  have hl := h.lt
  obtain ⟨es, ck, h1, h2, h3⟩ := h
  have hr := run_range_map (P := P) w t kt e bm es ck hu h1
  refine L_run hw rfl hn (by simp [execOp, hx, hr]) (hc _ _ ⟨es, ck, #[], [], ?_, h2, h3, (heap_alloc w _).1, rfl, by simp, rfl, by simp, List.nodup_nil⟩ rfl (by simp) (Ch.alloc w _))
  rw [(heap_alloc w _).2 _ hl]; exact h1
theorem L_nextm {x : Operand} (hi : ∀ a b, ke a = ke b → a = b) (hw : Wants ops f ⟨some d, .next x false, ty, pos, af, g⟩) (hn : Nat.blt d n = true) (hx : ev f x = .pointer (some ⟨bi, 0, none⟩)) (h : Itm ke ve w bi bm L D)
    (h0 : (∀ p ∈ L, p ∈ D) → Wl P n ops rest N (upd f d (.tuple #[.bool false])) w)
    (hc : ∀ p w1, p ∈ L → p ∉ D → D.length < L.length → Itm ke ve w1 bi bm L (D ++ [p]) → w1.heap.size = w.heap.size → Ch (fun j => j = bi) w w1 → Wl P n ops rest N (upd f d (.tuple #[.bool true, ke p.1, ve p.2])) w1) : Wl P n ops (⟨some d, .next x false, ty, pos, af, g⟩ :: rest) N f w := by
  have hmp := h.mp
  have hnod := hmp.nodup
  have hne := h.ne
  obtain ⟨es, ck, seen, S, k1, k2, k3, k4, k5, k6, k7, k8, k9⟩ := h
  obtain ⟨k2a, k2b, k2c⟩ := k2
  have htest := next_test_false seen es ck ck k2a (Nat.le_refl _)
  have hs : ∀ e ∈ es.toList, seen.contains e.born = true ↔ e ∈ S := by
    intro e he
    rw [Array.contains_iff_mem, ← Array.mem_toList_iff, k5, List.mem_map]
    constructor
    · rintro ⟨e', h1, h2⟩
      have h3 := k6 e' h1
      have h4 := find_born e es.toList k2b he
      have h5 := find_born e' es.toList k2b h3
      rw [h2] at h5
      rw [h4] at h5
      rw [Option.some.inj h5]; exact h1
    · intro h; exact ⟨e, h, rfl⟩
  have hpair : ∀ p ∈ L, ∃ e ∈ es.toList, e.key = ke p.1 ∧ e.val = ve p.2 := by
    intro p hp
    have : (ke p.1, ve p.2) ∈ es.toList.map (fun e => (e.key, e.val)) := by rw [k3]; exact List.mem_map.2 ⟨p, hp, rfl⟩
    obtain ⟨e, he, h⟩ := List.mem_map.1 this
    injection h with h1 h2
    exact ⟨e, he, h1, h2⟩
  have huniq : ∀ p q : K × V, p ∈ L → q ∈ L → p.1 = q.1 → p = q := by
    rintro ⟨a, b⟩ ⟨a', b'⟩ hp hq e
    simp only at e
    subst e
    obtain ⟨i, hi', e1⟩ := List.mem_iff_getElem.1 hp
    obtain ⟨j, hj', e2⟩ := List.mem_iff_getElem.1 hq
    have h1 : (L.map (·.1))[i]? = some a := by rw [List.getElem?_map, List.getElem?_eq_getElem hi', e1]; rfl
    have h2 : (L.map (·.1))[j]? = some a := by rw [List.getElem?_map, List.getElem?_eq_getElem hj', e2]; rfl
    have h3 := (List.getElem?_inj (by simpa using hi') hnod).1 (h1.trans h2.symm)
    subst h3
    rw [← e1, ← e2]
  have hnx : (Instr.next (.pointer (some ⟨bi, 0, none⟩)) false ty).run P w = (do
      let candidates := (if (Array.filter (fun e => !seen.contains e.born) es).isEmpty then #[none] else #[]) ++ (Array.filter (fun e => !seen.contains e.born) es).map some
      match candidates[← choose (.mapNext candidates.size)]? with
      | some (some e) =>
        setObj bi (.mapIter (some bm) ck (seen.push e.born) ck)
        pure (.tuple #[.bool true, e.key, e.val])
      | some none => pure (.tuple #[.bool false])
      | none => stuck "Next: no such candidate" : Sem Value).run P w := by
    simp only [Instr.next, getObj, Sem.run_bind, Sem.run, k4, k1, Result.andThen, htest, Bool.false_eq_true, if_false]
    have hmem : ∀ x ∈ (Array.filter (fun e => !seen.contains e.born) es).toList, x.born < ck := fun x hx => k2a x (by simp at hx ⊢; exact hx.1)
    generalize Array.filter (fun e => !seen.contains e.born) es = A at hmem ⊢
    have e1 : A.filter (fun x => decide (x.born < ck)) = A := Array.filter_eq_self.2 (fun x hx => by simpa using hmem x (by simpa using hx))
    have e2 : A.filter (fun x => decide (x.born ≥ ck)) = #[] := by
      rw [Array.filter_eq_empty_iff]
      intro x hx
      have := hmem x (by simpa using hx)
      simp
      omega
    simp only [e1, e2, Array.append_empty]
    rfl
  have hAm : ∀ e, e ∈ (Array.filter (fun e => !seen.contains e.born) es).toList → e ∈ es.toList ∧ e ∉ S := by
    intro e he
    rw [Array.mem_toList_iff, Array.mem_filter] at he
    have h1 : e ∈ es.toList := by simpa using he.1
    refine ⟨h1, fun hS => ?_⟩
    have := (hs e h1).2 hS
    rw [this] at he
    simp at he
  have hAn : ∀ e ∈ es.toList, e ∉ S → e ∈ (Array.filter (fun e => !seen.contains e.born) es).toList := by
    intro e he hS
    rw [Array.mem_toList_iff, Array.mem_filter]
    refine ⟨by simpa using he, ?_⟩
    cases hc2 : seen.contains e.born with
    | false => rfl
    | true => exact absurd ((hs e he).1 hc2) hS
  generalize hA : Array.filter (fun e => !seen.contains e.born) es = A at hnx hAm hAn
  by_cases hz : A.size = 0
  · have hAe : A = #[] := Array.eq_empty_of_size_eq_zero hz
    subst hAe
    refine L_run hw rfl hn (by
      simp only [execOp, hx, Sem.run_bind, hnx]
      simp [choose, Sem.run, Question.forced, Result.andThen]) (h0 fun p hp => ?_)
    obtain ⟨e, he, h1, h2⟩ := hpair p hp
    have hS : e ∈ S := by
      apply Classical.byContradiction
      intro hS
      have := hAn e he hS
      simp at this
    have : (e.key, e.val) ∈ D.map (fun p => (ke p.1, ve p.2)) := by rw [← k7]; exact List.mem_map.2 ⟨e, hS, rfl⟩
    obtain ⟨q, hq, h3⟩ := List.mem_map.1 this
    injection h3 with h3 h4
    have h5 : q = p := huniq q p (k8 q hq) hp (hi _ _ (h3.trans h1))
    rw [← h5]; exact hq
  · have hne2 : A.isEmpty = false := by simp [Array.isEmpty, hz]
    have hch : ∃ (j : Nat) (w1 : World), j < A.size ∧ w1.heap = w.heap ∧ Nw w w1 ∧ (choose (Question.mapNext A.size)).run P w = .ok j w1 := by
      by_cases hf : A.size ≤ 1
      · exact ⟨0, w, by omega, rfl, Ch.refl _, by simp [choose, Sem.run, Question.forced, hf]⟩
      · exact ⟨_, w.drew, Nat.mod_lt _ (by omega), rfl, Ch.drew w, by
          simp only [choose, Sem.run, Question.forced, decide_eq_true_eq, hf, if_false, Question.cut]
          rfl⟩
    obtain ⟨j, w1, hj, hh, hnw, hrun⟩ := hch
    have hse : (setObj bi (.mapIter (some bm) ck (seen.push A[j].born) ck)).run P w1 = .ok () { w1 with heap := w1.heap.setIfInBounds bi (.mapIter (some bm) ck (seen.push A[j].born) ck) } := by
      simp [setObj, Sem.run, hh, k4]
    have hk4 : w1.heap[bi]? = some (.mapIter (some bm) ck seen ck) := by rw [hh]; exact k4
    have hx2 : (execOp (ev f) ⟨some d, .next x false, ty, pos, af, g⟩).run P w = .ok (.value (.tuple #[.bool true, A[j].key, A[j].val])) { w1 with heap := w1.heap.setIfInBounds bi (.mapIter (some bm) ck (seen.push A[j].born) ck) } := by
      simp only [execOp, hx, Sem.run_bind, hnx]
      simp only [hne2, Bool.false_eq_true, if_false, Array.empty_append, Array.size_map, Sem.run_bind, hrun, Result.andThen, Array.getElem?_map, Array.getElem?_eq_getElem hj, Option.map_some, hse]
      rfl
    have hAj : A[j] ∈ A.toList := by simp
    obtain ⟨he1, he2⟩ := hAm _ hAj
    have hin : (A[j].key, A[j].val) ∈ L.map (fun p => (ke p.1, ve p.2)) := by rw [← k3]; exact List.mem_map.2 ⟨_, he1, rfl⟩
    obtain ⟨p, hp, h3⟩ := List.mem_map.1 hin
    injection h3 with h3 h4
    have hpD : p ∉ D := by
      intro hD
      have : (ke p.1, ve p.2) ∈ S.map (fun e => (e.key, e.val)) := by rw [k7]; exact List.mem_map.2 ⟨p, hD, rfl⟩
      obtain ⟨e', h5, h6⟩ := List.mem_map.1 this
      injection h6 with h6 h7
      have h8 := k6 e' h5
      -- the same key: the same entry
      obtain ⟨i1, hi1, e1⟩ := List.mem_iff_getElem.1 h8
      obtain ⟨i2, hi2, e2⟩ := List.mem_iff_getElem.1 he1
      have q1 : (es.toList.map (·.key))[i1]? = some A[j].key := by rw [List.getElem?_map, List.getElem?_eq_getElem hi1, e1, ← h3, ← h6]; rfl
      have q2 : (es.toList.map (·.key))[i2]? = some A[j].key := by rw [List.getElem?_map, List.getElem?_eq_getElem hi2, e2]; rfl
      have q3 := (List.getElem?_inj (by simpa using hi1) k2c).1 (q1.trans q2.symm)
      subst q3
      rw [e1] at e2
      rw [← e2] at he2
      exact he2 h5
    have hDn : (D ++ [p]).Nodup := List.nodup_append.2 ⟨k9, by simp, fun a ha b hb => by rw [List.mem_singleton] at hb; subst hb; intro e; subst e; exact hpD ha⟩
    have hDs : ∀ q ∈ D ++ [p], q ∈ L := fun q hq => by
      rcases List.mem_append.1 hq with hq | hq
      · exact k8 q hq
      · rw [List.mem_singleton.1 hq]; exact hp
    have hlt : D.length < L.length := by
      have := nodup_len (D ++ [p]) L hDn hDs
      rw [List.length_append] at this
      exact this
    have hset := heap_set (o' := .mapIter (some bm) ck (seen.push A[j].born) ck) hk4
    refine L_run hw rfl hn (v := .tuple #[.bool true, ke p.1, ve p.2]) (by rw [hx2, h3, h4]) (hc p _ hp hpD hlt ⟨es, ck, seen.push A[j].born, S ++ [A[j]], ?_, ⟨k2a, k2b, k2c⟩, k3, hset.1, by rw [Array.toList_push, k5, List.map_append]; rfl, ?_, ?_, hDs, hDn⟩ (by simp [hh]) ?_)
    · rw [hset.2 bm (Ne.symm hne), hh]; exact k1
    · intro e he
      rcases List.mem_append.1 he with he | he
      · exact k6 e he
      · rw [List.mem_singleton.1 he]; exact he1
    · rw [List.map_append, List.map_append, k7, List.map_cons, List.map_cons, List.map_nil, List.map_nil, h3, h4]
    · exact ⟨hnw.os, hnw.tape, hnw.output, by simp [hh], fun i _ hi' => by rw [hset.2 i hi', hh]⟩
theorem r_entry {x : Operand} {p : K × V} (hx : ev f x = .pointer (some ⟨bi, 0, none⟩)) (h : Itm ke ve w bi bm L (D ++ [p])) : (execOp (ev f) ⟨dst, .entry x, ty, pos, af, g⟩).run P w = .ok (.value (.tuple #[ke p.1, ve p.2])) w := by
  obtain ⟨es, ck, seen, S, k1, k2, k3, k4, k5, k6, k7, k8, k9⟩ := h
  rw [List.map_append, List.map_cons, List.map_nil] at k7
  obtain ⟨S0, S1, rfl, h1, h2⟩ := List.map_eq_append_iff.1 k7
  obtain ⟨e, S2, rfl, h3, h4⟩ := List.map_eq_cons_iff.1 h2
  obtain rfl : S2 = [] := List.map_eq_nil_iff.1 h4
  injection h3 with h5 h6
  have he : e ∈ es.toList := k6 e (by simp)
  have hf : es.find? (·.born == e.born) = some e := by rw [← Array.find?_toList]; exact find_born e es.toList k2.2.1 he
  have hb : seen.back? = some e.born := by
    rw [← Array.getLast?_toList, k5]; simp
  simp only [execOp, hx, Instr.entry, getObj, Sem.run_bind, Sem.run, k4, k1, Result.andThen, hb, bne_self_eq_false, Bool.false_eq_true, if_false, hf]
  rw [← h5, ← h6]
  rfl
theorem eq_struct {t : TypeId} {fs : Array Field} {xs ys : Array Value} (ht : P.underlying t = some (.struct fs)) (hp : P.stoodInHeld t = false) : (Op.equal t (.agg xs) (.agg ys)).run P w = (Op.eqFields 9999 xs ys fs.toList).run P w := by
  have e : P.fieldsOf t = fs := by simp [Program.fieldsOf, ht]
  have := run_equalIn_struct (P := P) w 9999 t xs ys (by rw [e]; exact ht) hp
  rw [e] at this
  exact this
theorem eqF_nil {d : Nat} {xs ys : Array Value} : (Op.eqFields d xs ys []).run P w = .ok (decide True) w := by simp [Op.eqFields]
theorem eqF_cons {d : Nat} {xs ys : Array Value} {fs : List Field} {f : Field} {a b : Value} {p q : Prop} [Decidable p] [Decidable q] (hn : f.name ≠ "_") (hk : P.plainKey f.type = true) (hx : xs[f.offset]? = some a) (hy : ys[f.offset]? = some b)
    (he : (Op.equalIn d f.type a b).run P w = .ok (decide p) w) (hr : (Op.eqFields d xs ys fs).run P w = .ok (decide q) w) : (Op.eqFields d xs ys (f :: fs)).run P w = .ok (decide (p ∧ q)) w := by
  simp only [Op.eqFields, if_pos hn, Sem.run_bind, run_part_plain w hk hx, run_part_plain w hk hy, he, Result.andThen_ok]
  by_cases hp : p
  · rw [decide_eq_true hp]; simp only [Bool.not_true, Bool.false_eq_true, if_false, hr]
    simp [hp]
  · rw [decide_eq_false hp]; simp [hp]
theorem eqI_int {d : Nat} {t : TypeId} {k : IntKind} {a b : Int} (h : P.underlying t = some (.int k)) : (Op.equalIn (d + 1) t (.int k a) (.int k b)).run P w = .ok (decide (a = b)) w := by
  rw [run_equalIn_int w d t k k a b h]
  by_cases e : a = b <;> simp [e]
theorem eqI_bool {d : Nat} {t : TypeId} {a b : Bool} (h : P.underlying t = some .bool) : (Op.equalIn (d + 1) t (.bool a) (.bool b)).run P w = .ok (decide (a = b)) w := by
  rw [run_equalIn_bool' w d t a b h]
  by_cases e : a = b <;> simp [e]
theorem eqI_string {d : Nat} {t : TypeId} {a b : ByteArray} (h : P.underlying t = some .string) : (Op.equalIn (d + 1) t (.string a) (.string b)).run P w = .ok (decide (a = b)) w := by
  rw [run_equalIn_string w d t a b h, ← beq_toListBytes]
  by_cases e : a = b
  · rw [decide_eq_true e, (bytes_beq a b).2 e]
  · rw [decide_eq_false e]
    cases h2 : a == b with
    | false => rfl
    | true => exact absurd ((bytes_beq a b).1 h2) e
def putA : List (Nat × Value) → List Value → Option (List Value)
  | [], cs => some cs
  | (i, v) :: r, cs => if i < cs.length then putA r (cs.set i v) else none
theorem fill_putA : ∀ (vs : List (Nat × Value)) (cs : Array Value) (out : List Value), (vs.all fun p => p.2.oneCell') = true → putA vs cs.toList = some out → Instr.fill (fun i => some (i * 1, 1)) cs vs = some out.toArray
  | [], cs, out, _, h => by simp only [putA] at h; injection h with h; subst h; simp [Instr.fill]
  | (i, v) :: r, cs, out, h1, h => by
    simp only [List.all_cons, Bool.and_eq_true] at h1
    have hv : v.cells = #[v] := by
      have := h1.1
      cases v <;> first | rfl | (simp [Value.oneCell'] at this)
    simp only [putA] at h
    split at h
    · rename_i ho
      have h3 : (decide (v.cells.size ≠ 1) || decide (i * 1 + v.cells.size > cs.size)) = false := by
        simp only [hv, Array.length_toList] at ho ⊢
        simp; omega
      have h4 : v.cells.zipIdx.foldl (fun cs (x : Value × Nat) => cs.setIfInBounds (i * 1 + x.2) x.1) cs = cs.setIfInBounds i v := by rw [hv]; simp [Array.zipIdx]
      have ih := fill_putA r (cs.setIfInBounds i v) out h1.2 (by rw [Array.toList_setIfInBounds]; exact h)
      simp only [Instr.fill, h3, Bool.false_eq_true, if_false]
      rw [← ih, ← h4]
    · cases h
theorem r_buildA {t e : TypeId} {len : Nat} {parts : Array (Nat × Operand)} {z : Array Value} {vs : List (Nat × Value)} {cells : List Value} (hu : P.underlying t = some (.array len e)) (hz : (P.info? t).bind (·.zero) = some (.agg z)) (he : (P.info? e).map (·.size) = some 1)
    (hv : (parts.toList.map fun p => (p.1, ev f p.2)) = vs) (h1 : (vs.all fun p => p.2.oneCell') = true) (hc : putA vs z.toList = some cells) :
    (execOp (ev f) ⟨dst, .build t parts, ty, pos, af, g⟩).run P w = .ok (.value (.agg cells.toArray)) w := by
  refine r_build ?_
  rw [hv]
  unfold Program.built
  cases hi : P.info? t with
  | none => rw [hi] at hz; cases hz
  | some it =>
    rw [hi] at hz
    simp only [Option.bind_some] at hz
    cases hi2 : P.info? e with
    | none => rw [hi2] at he; cases he
    | some ie =>
      rw [hi2] at he
      have he' : ie.size = 1 := by simpa using he
      simp only [hu, hz, hi2, he']
      exact fill_putA vs z cells h1 hc
theorem r_eqlR {x y : Operand} {t : TypeId} {xs ys : Array Value} {p : Prop} [Decidable p] (hx : ev f x = .agg xs) (hy : ev f y = .agg ys) (hg : P.eqGuardType P.depth t = false) (h : (Op.equal t (.agg xs) (.agg ys)).run P w = .ok (decide p) w) : (execOp (ev f) ⟨dst, .binOp .eql t x y t, ty, pos, af, g⟩).run P w = .ok (.value (.bool (decide p))) w := by
  simp [execOp, hx, hy, eqGuard, binOp, h, hg]
theorem r_neqR {x y : Operand} {t : TypeId} {xs ys : Array Value} {p : Prop} [Decidable p] (hx : ev f x = .agg xs) (hy : ev f y = .agg ys) (hg : P.eqGuardType P.depth t = false) (h : (Op.equal t (.agg xs) (.agg ys)).run P w = .ok (decide p) w) : (execOp (ev f) ⟨dst, .binOp .neq t x y t, ty, pos, af, g⟩).run P w = .ok (.value (.bool (decide (¬ p)))) w := by
  simp [execOp, hx, hy, eqGuard, binOp, h, hg]
/-! ### texts -/
def Its (w : World) (bi : Nat) (s : ByteArray) (at_ : Nat) : Prop := w.heap[bi]? = some (.stringIter s at_)
theorem Its.to {w w' : World} {s : ByteArray} {a : Nat} (h : Its w bi s a) (c : Sm w w' bi) : Its w' bi s a := (c.2 (lt_of_block h)).trans h
theorem L_ranges {x : Operand} {t : TypeId} {s : ByteArray} (hu : P.underlying t = some .string) (hw : Wants ops f ⟨some d, .range t x, ty, pos, af, g⟩) (hn : Nat.blt d n = true) (hx : ev f x = .string s)
    (hc : ∀ w1 bi, Its w1 bi s 0 → bi = w.heap.size → w1.heap.size = bi + 1 → Nw w w1 → Wl P n ops rest N (upd f d (.pointer (some ⟨bi, 0, none⟩))) w1) : Wl P n ops (⟨some d, .range t x, ty, pos, af, g⟩ :: rest) N f w := by
  have hr := run_range_string (P := P) w t s hu
  exact L_run hw rfl hn (by simp [execOp, hx, hr]; rfl) (hc (w.alloc (.stringIter s 0)) _ (heap_alloc w _).1 rfl (by simp) (Ch.alloc w _))
theorem L_nexts {x : Operand} {s : ByteArray} {a : Nat} (hw : Wants ops f ⟨some d, .next x true, ty, pos, af, g⟩) (hn : Nat.blt d n = true) (hx : ev f x = .pointer (some ⟨bi, 0, none⟩)) (h : Its w bi s a)
    (h0 : ¬ a < s.size → Wl P n ops rest N (upd f d (.tuple #[.bool false])) w)
    (hc : ∀ w1, a < s.size → Its w1 bi s (a + (Utf8.decode s a).2) → w1.heap.size = w.heap.size → Ch (fun j => j = bi) w w1 → Wl P n ops rest N (upd f d (.tuple #[.bool true, .int .i64 a, .int .i32 (Utf8.decode s a).1])) w1) : Wl P n ops (⟨some d, .next x true, ty, pos, af, g⟩ :: rest) N f w := by
  by_cases hl : a < s.size
  · refine L_run hw rfl hn (w' := { w with heap := w.heap.setIfInBounds bi (.stringIter s (a + (Utf8.decode s a).2)) }) ?_ (hc _ hl (heap_set h).1 (by simp) ⟨rfl, rfl, rfl, by simp, fun i _ hi => (heap_set h).2 i hi⟩)
    simp only [execOp, hx, Instr.next, getObj, setObj, Sem.run_bind, Sem.run, show w.heap[bi]? = some (.stringIter s a) from h, Result.andThen, hl, if_true]
    simp [goInt]
  · refine L_run hw rfl hn ?_ (h0 hl)
    simp [execOp, hx, Instr.next, getObj, Sem.run, show w.heap[bi]? = some (.stringIter s a) from h, hl]
end ops
/-! ### changes by the blocks' types, or to maps -/
def Tm (base : Nat) (w : World) (ts : List TypeId) (j : Nat) : Prop := base ≤ j ∧ ((∃ cs t fr, w.heap[j]? = some (.cells cs t fr) ∧ t ∈ ts) ∨ ∃ es ck, w.heap[j]? = some (.map es ck))
theorem Tm.not_bk {base : Nat} {w : World} {ts : List TypeId} {j : Nat} {cs : Array Value} {t : TypeId} (h : Bk w j cs t) (ht : ts.contains t = false) : ¬ Tm base w ts j := by
  rintro ⟨hb, h1 | ⟨es, ck, h1⟩⟩
  · exact Tb.not_bk h ht ⟨hb, h1⟩
  · obtain ⟨fr, h2, _⟩ := h
    rw [h1] at h2; cases h2
theorem Tm.of_bk {base : Nat} {w : World} {ts : List TypeId} {j : Nat} {cs : Array Value} {t : TypeId} (h : Bk w j cs t) (ht : t ∈ ts) (hb : base ≤ j) : Tm base w ts j := by
  obtain ⟨fr, h3, _⟩ := h
  exact ⟨hb, .inl ⟨cs, t, fr, h3, ht⟩⟩
theorem Tm.of_mp {K V : Type} {ke : K → Value} {ve : V → Value} {L : List (K × V)} {base : Nat} {w : World} {ts : List TypeId} {j : Nat} (h : Mp ke ve w j L) (hb : base ≤ j) : Tm base w ts j := by
  obtain ⟨es, ck, h3, _⟩ := h
  exact ⟨hb, .inr ⟨es, ck, h3⟩⟩
theorem bkm_not {w w1 : World} {base b : Nat} {ts : List TypeId} {cs : Array Value} {t : TypeId} (h : Bk w b cs t) (e : w1.heap[b]? = w.heap[b]?) (ht : ts.contains t = false) : ¬ Tm base w1 ts b := Tm.not_bk (h.sm e) ht
theorem ownm_not {w w1 : World} {base base' e sz n i : Nat} {v : Value} {xs : List Value} {ts : List TypeId} (h : w.ownsRow base e sz v n xs) (hi : v.ownBlock = some i) (he : w1.heap[i]? = w.heap[i]?) (ht : ts.contains e = false) : ¬ Tm base' w1 ts i := by
  obtain ⟨cs, hb⟩ := (Ow.of h).bk hi
  exact bkm_not hb he ht
theorem owm_not {w w1 : World} {base base' e sz n i : Nat} {v : Value} {xs : List Value} {ts : List TypeId} (h : Ow w base e sz v n xs) (hi : v.ownBlock = some i) (he : w1.heap[i]? = w.heap[i]?) (ht : ts.contains e = false) : ¬ Tm base' w1 ts i := by
  obtain ⟨cs, hb⟩ := h.bk hi
  exact bkm_not hb he ht
theorem Bk.sl {w : World} {b : Nat} {cs : Array Value} {t : TypeId} (h : Bk w b cs t) : Sl w (.slice (some ⟨b, 0, none⟩) cs.size cs.size) 1 cs.size cs.toList :=
  ⟨by simp, .inr ⟨b, 0, cs.size, cs, t, rfl, Nat.le_refl _, h.rk, fun i x hx => by simpa using hx⟩⟩
theorem r_loadsub {P : Program} {w : World} {f : Fr} {dst : Option Tmp} {ty : TypeId} {pos : String} {af : Array Edge} {g : Option (Nat × Bool)} {x : Operand} {t e : TypeId} {b i m : Nat} {cs : Array Value} {us : List Value} {dd : TypeDesc} (hu : P.underlying t = some dd) (hd : (match dd with | .struct _ | .array _ _ => true | _ => false) = true) (hi : (P.info? t).map (·.size) = some m)
    (hx : ev f x = .pointer (some ⟨b, i, none⟩)) (hb : Bk w b cs e) (hm' : Nat.ble (i + m) cs.size = true) (hus : (cs.toList.drop i).take m = us) : (execOp (ev f) ⟨dst, .load t x, ty, pos, af, g⟩).run P w = .ok (.value (.agg us.toArray)) w := by
  have hm : i + m ≤ cs.size := Nat.le_of_ble_eq_true hm'
  refine r_loadSlrow (v := .slice (some ⟨b, 0, none⟩) cs.size cs.size) (i := i) hu hd hi ?_ (by rw [hx]; show _ = Value.pointer (some ⟨b, 0 + i, none⟩); rw [Nat.zero_add]) hb.sl ?_
  · rw [← hus, List.length_take, List.length_drop, Array.length_toList]; omega
  · intro j u hj
    rw [← hus, List.getElem?_take] at hj
    split at hj
    · rw [List.getElem?_drop] at hj; exact hj
    · cases hj
/-! ### results that lie in cells -/
theorem r_ret_tc {P : Program} {w : World} {f : Fr} {fn : Func} {T : Value → World → Prop} {i0 : Nat} {v0 : Value} {p1 : Nat} {t1 e1' : TypeId} {b1 : Nat} {cs1 : Array Value} {dd1 : TypeDesc} (hr : fn.results = #[.tmp i0, .cell p1 t1]) (h0 : f i0 = v0) (hp1 : f p1 = .pointer (some ⟨b1, 0, none⟩)) (hu1 : P.underlying t1 = some dd1) (hd1 : (match dd1 with | .struct _ | .array _ _ => true | _ => false) = true) (hb1 : Bk w b1 cs1 e1') (hi1 : (P.info? t1).map (·.size) = some cs1.size) (h : T (.tuple #[v0, .agg cs1]) w) : Rt P fn T f w := fun tm ht => by
  have e0 : tm[i0]?.getD undef = v0 := by have := ht i0; rw [h0] at this; simpa using this
  obtain ⟨fr1, hb1, _⟩ := hb1
  have e1 : tm[p1]?.getD undef = .pointer (some ⟨b1, 0, none⟩) := by have := ht p1; rw [hp1] at this; simpa using this
  refine ⟨.tuple #[v0, .agg cs1], ?_, h⟩
  simp [results, hr, asAddr, e0, e1, run_loadVar_row w b1 e1' t1 cs1 fr1 dd1 hb1 hu1 hd1 hi1]
theorem r_ret_ct {P : Program} {w : World} {f : Fr} {fn : Func} {T : Value → World → Prop} {p0 : Nat} {t0 e0' : TypeId} {b0 : Nat} {cs0 : Array Value} {dd0 : TypeDesc} {i1 : Nat} {v1 : Value} (hr : fn.results = #[.cell p0 t0, .tmp i1]) (hp0 : f p0 = .pointer (some ⟨b0, 0, none⟩)) (hu0 : P.underlying t0 = some dd0) (hd0 : (match dd0 with | .struct _ | .array _ _ => true | _ => false) = true) (hb0 : Bk w b0 cs0 e0') (hi0 : (P.info? t0).map (·.size) = some cs0.size) (h1 : f i1 = v1) (h : T (.tuple #[.agg cs0, v1]) w) : Rt P fn T f w := fun tm ht => by
  obtain ⟨fr0, hb0, _⟩ := hb0
  have e0 : tm[p0]?.getD undef = .pointer (some ⟨b0, 0, none⟩) := by have := ht p0; rw [hp0] at this; simpa using this
  have e1 : tm[i1]?.getD undef = v1 := by have := ht i1; rw [h1] at this; simpa using this
  refine ⟨.tuple #[.agg cs0, v1], ?_, h⟩
  simp [results, hr, asAddr, e0, run_loadVar_row w b0 e0' t0 cs0 fr0 dd0 hb0 hu0 hd0 hi0, e1]
theorem r_ret_cct {P : Program} {w : World} {f : Fr} {fn : Func} {T : Value → World → Prop} {p0 : Nat} {t0 e0' : TypeId} {b0 : Nat} {cs0 : Array Value} {dd0 : TypeDesc} {p1 : Nat} {t1 e1' : TypeId} {b1 : Nat} {cs1 : Array Value} {dd1 : TypeDesc} {i2 : Nat} {v2 : Value} (hr : fn.results = #[.cell p0 t0, .cell p1 t1, .tmp i2]) (hp0 : f p0 = .pointer (some ⟨b0, 0, none⟩)) (hu0 : P.underlying t0 = some dd0) (hd0 : (match dd0 with | .struct _ | .array _ _ => true | _ => false) = true) (hb0 : Bk w b0 cs0 e0') (hi0 : (P.info? t0).map (·.size) = some cs0.size) (hp1 : f p1 = .pointer (some ⟨b1, 0, none⟩)) (hu1 : P.underlying t1 = some dd1) (hd1 : (match dd1 with | .struct _ | .array _ _ => true | _ => false) = true) (hb1 : Bk w b1 cs1 e1') (hi1 : (P.info? t1).map (·.size) = some cs1.size) (h2 : f i2 = v2) (h : T (.tuple #[.agg cs0, .agg cs1, v2]) w) : Rt P fn T f w := fun tm ht => by
  obtain ⟨fr0, hb0, _⟩ := hb0
  have e0 : tm[p0]?.getD undef = .pointer (some ⟨b0, 0, none⟩) := by have := ht p0; rw [hp0] at this; simpa using this
  obtain ⟨fr1, hb1, _⟩ := hb1
  have e1 : tm[p1]?.getD undef = .pointer (some ⟨b1, 0, none⟩) := by have := ht p1; rw [hp1] at this; simpa using this
  have e2 : tm[i2]?.getD undef = v2 := by have := ht i2; rw [h2] at this; simpa using this
  refine ⟨.tuple #[.agg cs0, .agg cs1, v2], ?_, h⟩
  simp [results, hr, asAddr, e0, run_loadVar_row w b0 e0' t0 cs0 fr0 dd0 hb0 hu0 hd0 hi0, e1, run_loadVar_row w b1 e1' t1 cs1 fr1 dd1 hb1 hu1 hd1 hi1, e2]
theorem r_ret_ctc {P : Program} {w : World} {f : Fr} {fn : Func} {T : Value → World → Prop} {p0 : Nat} {t0 e0' : TypeId} {b0 : Nat} {cs0 : Array Value} {dd0 : TypeDesc} {i1 : Nat} {v1 : Value} {p2 : Nat} {t2 e2' : TypeId} {b2 : Nat} {cs2 : Array Value} {dd2 : TypeDesc} (hr : fn.results = #[.cell p0 t0, .tmp i1, .cell p2 t2]) (hp0 : f p0 = .pointer (some ⟨b0, 0, none⟩)) (hu0 : P.underlying t0 = some dd0) (hd0 : (match dd0 with | .struct _ | .array _ _ => true | _ => false) = true) (hb0 : Bk w b0 cs0 e0') (hi0 : (P.info? t0).map (·.size) = some cs0.size) (h1 : f i1 = v1) (hp2 : f p2 = .pointer (some ⟨b2, 0, none⟩)) (hu2 : P.underlying t2 = some dd2) (hd2 : (match dd2 with | .struct _ | .array _ _ => true | _ => false) = true) (hb2 : Bk w b2 cs2 e2') (hi2 : (P.info? t2).map (·.size) = some cs2.size) (h : T (.tuple #[.agg cs0, v1, .agg cs2]) w) : Rt P fn T f w := fun tm ht => by
  obtain ⟨fr0, hb0, _⟩ := hb0
  have e0 : tm[p0]?.getD undef = .pointer (some ⟨b0, 0, none⟩) := by have := ht p0; rw [hp0] at this; simpa using this
  have e1 : tm[i1]?.getD undef = v1 := by have := ht i1; rw [h1] at this; simpa using this
  obtain ⟨fr2, hb2, _⟩ := hb2
  have e2 : tm[p2]?.getD undef = .pointer (some ⟨b2, 0, none⟩) := by have := ht p2; rw [hp2] at this; simpa using this
  refine ⟨.tuple #[.agg cs0, v1, .agg cs2], ?_, h⟩
  simp [results, hr, asAddr, e0, run_loadVar_row w b0 e0' t0 cs0 fr0 dd0 hb0 hu0 hd0 hi0, e1, e2, run_loadVar_row w b2 e2' t2 cs2 fr2 dd2 hb2 hu2 hd2 hi2]
/-! What the walks ask for again and again: what is told of an older world is brought to this one; what is left out is found by tactics where a law is used. -/
theorem Itm.au {K V : Type} {ke : K → Value} {ve : V → Value} {w w' : World} {bi bm : Nat} {L D : List (K × V)} (h : Itm ke ve w bi bm L D := by assumption) (c1 : Sm w w' bi := by repeat (first | exact Sm.refl _ _ | (refine Sm.stepT (by assumption) (by intro hlt hsm; first | exact not_no | (intro he; have he2 : _ = some _ := he; have := own_base (by assumption) he2; omega) | (intro he; have he2 : _ = _ := he; omega) | (intro he; have he2 : _ = some _ := he; have := ow_base (by assumption) he2; omega) | (intro he; have := he.1; omega) | exact bk_not (by assumption) hsm rfl | exact mp_not (by assumption) hsm | exact bkm_not (by assumption) hsm rfl | exact ownm_not (by assumption) hi hsm rfl | exact owm_not (by assumption) hi hsm rfl | exact own_not (by assumption) hi hsm rfl | exact ow_not (by assumption) hi hsm rfl | (intro he; have he2 : _ = some _ := he; have := Ow.lt (by assumption) he2; omega) | (intro he; have he2 : _ = some _ := he; have := Ow.lt (by assumption) he2; have := own_base (by assumption) hi; omega) | (intro he; have he2 : _ = some _ := he; have := Ow.lt how he2; first | omega | (have := own_base (by assumption) hi; omega)) | (intro he; have he2 : _ = _ := he; have := Ow.lt how hi; omega) | (intro he; have he2 : _ = _ := he; have := own_base (by assumption) hi; omega) | (intro he; have he2 : _ = _ := he; have := ow_base (by assumption) hi; omega) | (intro he; have he2 : _ = _ := he; rw [he2] at hi; exact absurd hi (by assumption)) | (intro he; have he2 : _ = some _ := he; have h3 := own_lt (by assumption) he2; first | omega | (have h4 : _ = some _ := hi; simp [Value.ownBlock] at h4; omega)) | (intro he; have he2 : _ = some _ := he; have h3 := ow_base (by assumption) he2; have h4 : _ = some _ := hi; simp [Value.ownBlock] at h4; omega) | (intro he; have he2 : _ = some _ := he; exact absurd he2 (hsep _ hi)) | (intro he; have he2 : _ = _ := he; have := hlo _ hi; omega) | (intro he; have he2 : _ = some _ := he; have := hlo _ he2; omega) | (intro he; first | exact absurd he (by assumption) | exact absurd he.symm (by assumption)) | (intro he; have he2 : _ = _ ∨ _ = _ := he; omega)) ?_))) (c2 : Sm w w' bm := by repeat (first | exact Sm.refl _ _ | (refine Sm.stepT (by assumption) (by intro hlt hsm; first | exact not_no | (intro he; have he2 : _ = some _ := he; have := own_base (by assumption) he2; omega) | (intro he; have he2 : _ = _ := he; omega) | (intro he; have he2 : _ = some _ := he; have := ow_base (by assumption) he2; omega) | (intro he; have := he.1; omega) | exact bk_not (by assumption) hsm rfl | exact mp_not (by assumption) hsm | exact bkm_not (by assumption) hsm rfl | exact ownm_not (by assumption) hi hsm rfl | exact owm_not (by assumption) hi hsm rfl | exact own_not (by assumption) hi hsm rfl | exact ow_not (by assumption) hi hsm rfl | (intro he; have he2 : _ = some _ := he; have := Ow.lt (by assumption) he2; omega) | (intro he; have he2 : _ = some _ := he; have := Ow.lt (by assumption) he2; have := own_base (by assumption) hi; omega) | (intro he; have he2 : _ = some _ := he; have := Ow.lt how he2; first | omega | (have := own_base (by assumption) hi; omega)) | (intro he; have he2 : _ = _ := he; have := Ow.lt how hi; omega) | (intro he; have he2 : _ = _ := he; have := own_base (by assumption) hi; omega) | (intro he; have he2 : _ = _ := he; have := ow_base (by assumption) hi; omega) | (intro he; have he2 : _ = _ := he; rw [he2] at hi; exact absurd hi (by assumption)) | (intro he; have he2 : _ = some _ := he; have h3 := own_lt (by assumption) he2; first | omega | (have h4 : _ = some _ := hi; simp [Value.ownBlock] at h4; omega)) | (intro he; have he2 : _ = some _ := he; have h3 := ow_base (by assumption) he2; have h4 : _ = some _ := hi; simp [Value.ownBlock] at h4; omega) | (intro he; have he2 : _ = some _ := he; exact absurd he2 (hsep _ hi)) | (intro he; have he2 : _ = _ := he; have := hlo _ hi; omega) | (intro he; have he2 : _ = some _ := he; have := hlo _ he2; omega) | (intro he; first | exact absurd he (by assumption) | exact absurd he.symm (by assumption)) | (intro he; have he2 : _ = _ ∨ _ = _ := he; omega)) ?_))) : Itm ke ve w' bi bm L D := Itm.to h c1 c2
theorem Its.au {w w' : World} {bi : Nat} {s : ByteArray} {a : Nat} (h : Its w bi s a := by assumption) (c : Sm w w' bi := by repeat (first | exact Sm.refl _ _ | (refine Sm.stepT (by assumption) (by intro hlt hsm; first | exact not_no | (intro he; have he2 : _ = some _ := he; have := own_base (by assumption) he2; omega) | (intro he; have he2 : _ = _ := he; omega) | (intro he; have he2 : _ = some _ := he; have := ow_base (by assumption) he2; omega) | (intro he; have := he.1; omega) | exact bk_not (by assumption) hsm rfl | exact mp_not (by assumption) hsm | exact bkm_not (by assumption) hsm rfl | exact ownm_not (by assumption) hi hsm rfl | exact owm_not (by assumption) hi hsm rfl | exact own_not (by assumption) hi hsm rfl | exact ow_not (by assumption) hi hsm rfl | (intro he; have he2 : _ = some _ := he; have := Ow.lt (by assumption) he2; omega) | (intro he; have he2 : _ = some _ := he; have := Ow.lt (by assumption) he2; have := own_base (by assumption) hi; omega) | (intro he; have he2 : _ = some _ := he; have := Ow.lt how he2; first | omega | (have := own_base (by assumption) hi; omega)) | (intro he; have he2 : _ = _ := he; have := Ow.lt how hi; omega) | (intro he; have he2 : _ = _ := he; have := own_base (by assumption) hi; omega) | (intro he; have he2 : _ = _ := he; have := ow_base (by assumption) hi; omega) | (intro he; have he2 : _ = _ := he; rw [he2] at hi; exact absurd hi (by assumption)) | (intro he; have he2 : _ = some _ := he; have h3 := own_lt (by assumption) he2; first | omega | (have h4 : _ = some _ := hi; simp [Value.ownBlock] at h4; omega)) | (intro he; have he2 : _ = some _ := he; have h3 := ow_base (by assumption) he2; have h4 : _ = some _ := hi; simp [Value.ownBlock] at h4; omega) | (intro he; have he2 : _ = some _ := he; exact absurd he2 (hsep _ hi)) | (intro he; have he2 : _ = _ := he; have := hlo _ hi; omega) | (intro he; have he2 : _ = some _ := he; have := hlo _ he2; omega) | (intro he; first | exact absurd he (by assumption) | exact absurd he.symm (by assumption)) | (intro he; have he2 : _ = _ ∨ _ = _ := he; omega)) ?_))) : Its w' bi s a := Its.to h c
end Go.Proofs.YtioonbfinnigpaaGreatDoor
