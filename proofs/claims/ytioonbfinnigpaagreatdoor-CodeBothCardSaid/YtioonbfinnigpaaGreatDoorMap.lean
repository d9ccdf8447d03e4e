/- Maps of one's own: what they hold, as a list of keys and values; over any program. -/
import Derived.Test.YtioonbfinnigpaaGreatDoorRow
import Derived.MapKept
namespace Go.Proofs.YtioonbfinnigpaaGreatDoor
open Go Go.RowKit Go.MapKept
set_option linter.unusedVariables false
set_option linter.unusedSimpArgs false
section plain
variable {K V : Type} [DecidableEq K]
def mget (L : List (K × V)) (k : K) : Option V := (L.find? (fun p => decide (p.1 = k))).map (·.2)
def mset (L : List (K × V)) (k : K) (v : V) : List (K × V) := if (mget L k).isSome then L.map (fun p => if p.1 = k then (k, v) else p) else L ++ [(k, v)]
def mdel (L : List (K × V)) (k : K) : List (K × V) := L.filter (fun p => decide (p.1 ≠ k))
theorem mget_none {L : List (K × V)} {k : K} (h : ∀ p ∈ L, p.1 ≠ k) : mget L k = none := by
  unfold mget
  rw [List.find?_eq_none.2 (fun p hp => by simpa using h p hp)]; rfl
theorem mget_at {L : List (K × V)} {k : K} {v : V} {j : Nat} (hn : (L.map (·.1)).Nodup) (h : L[j]? = some (k, v)) : mget L k = some v := by
  induction L generalizing j with
  | nil => simp at h
  | cons p L ih =>
    rw [List.map_cons, List.nodup_cons] at hn
    cases j with
    | zero => simp at h; subst h; simp [mget]
    | succ j =>
      have h2 : L[j]? = some (k, v) := by simpa using h
      have hne : p.1 ≠ k := fun e => hn.1 (by rw [e]; exact List.mem_map.2 ⟨_, List.mem_of_getElem? h2, rfl⟩)
      have := ih hn.2 h2
      unfold mget at this ⊢
      rw [List.find?_cons_of_neg (by simpa using hne)]
      exact this
theorem mget_some {L : List (K × V)} {k : K} {v : V} (h : mget L k = some v) : (k, v) ∈ L := by
  unfold mget at h
  cases hf : L.find? (fun p => decide (p.1 = k)) with
  | none => rw [hf] at h; cases h
  | some p =>
    rw [hf] at h
    have h1 := List.find?_some hf
    have h2 := List.mem_of_find?_eq_some hf
    simp at h h1
    obtain ⟨a, b⟩ := p
    simp at h h1
    subst h h1
    exact h2
theorem mget_mem {L : List (K × V)} {k : K} {v : V} (hn : (L.map (·.1)).Nodup) (h : (k, v) ∈ L) : mget L k = some v := by
  obtain ⟨j, hj, e⟩ := List.mem_iff_getElem.1 h
  exact mget_at hn (by rw [List.getElem?_eq_getElem hj, e])
theorem mget_no {L : List (K × V)} {k : K} (h : mget L k = none) : ∀ p ∈ L, p.1 ≠ k := by
  intro p hp e
  unfold mget at h
  cases hf : L.find? (fun p => decide (p.1 = k)) with
  | none => exact absurd (List.find?_eq_none.1 hf p hp) (by simpa using e)
  | some q => rw [hf] at h; cases h
theorem mset_mem {L : List (K × V)} {k : K} {v : V} {p : K × V} (h : p ∈ mset L k v) : p = (k, v) ∨ (p ∈ L ∧ p.1 ≠ k) := by
  unfold mset at h
  split at h
  · obtain ⟨q, hq, e⟩ := List.mem_map.1 h
    split at e
    · exact .inl e.symm
    · rename_i hne; subst e; exact .inr ⟨hq, hne⟩
  · rename_i hs
    rcases List.mem_append.1 h with h | h
    · have : mget L k = none := by simpa using hs
      exact .inr ⟨h, mget_no this p h⟩
    · exact .inl (List.mem_singleton.1 h)
theorem mem_mset {L : List (K × V)} {k : K} {v : V} {p : K × V} (h : p ∈ L) (hne : p.1 ≠ k) : p ∈ mset L k v := by
  unfold mset
  split
  · exact List.mem_map.2 ⟨p, h, if_neg hne⟩
  · exact List.mem_append_left _ h
theorem mset_in {L : List (K × V)} {k : K} {v : V} : (k, v) ∈ mset L k v := by
  unfold mset
  split
  · rename_i hs
    obtain ⟨u, hu⟩ := Option.isSome_iff_exists.1 hs
    exact List.mem_map.2 ⟨_, mget_some hu, if_pos rfl⟩
  · simp
theorem mset_modify {L : List (K × V)} {k : K} {v v' : V} {j : Nat} (hn : (L.map (·.1)).Nodup) (h : L[j]? = some (k, v')) : mset L k v = L.modify j (fun _ => (k, v)) := by
  unfold mset
  rw [mget_at hn h, if_pos (show (some v').isSome = true from rfl)]
  apply List.ext_getElem?
  intro i
  rw [List.getElem?_map, List.getElem?_modify]
  by_cases e : j = i
  · subst e; rw [h]; simp
  · cases hi : L[i]? with
    | none => simp
    | some p =>
      have hne : p.1 ≠ k := by
        intro e2
        have h1 : (L.map (·.1))[i]? = some k := by rw [List.getElem?_map, hi, ← e2]; rfl
        have h2 : (L.map (·.1))[j]? = some k := by rw [List.getElem?_map, h]; rfl
        have hi' := (List.getElem?_eq_some_iff.1 h1).1
        exact e (((List.getElem?_inj hi' hn).1 (h1.trans h2.symm)).symm)
      simp [e, hne]
theorem mdel_erase {L : List (K × V)} {k : K} {v : V} {j : Nat} (hn : (L.map (·.1)).Nodup) (h : L[j]? = some (k, v)) : mdel L k = L.eraseIdx j := by
  induction L generalizing j with
  | nil => simp at h
  | cons p L ih =>
    rw [List.map_cons, List.nodup_cons] at hn
    cases j with
    | zero =>
      simp at h; subst h
      unfold mdel
      rw [List.filter_cons_of_neg (by simp), List.eraseIdx_zero, List.tail_cons, List.filter_eq_self]
      intro q hq
      simp
      intro e
      exact hn.1 (List.mem_map.2 ⟨q, hq, e⟩)
    | succ j =>
      have h2 : L[j]? = some (k, v) := by simpa using h
      have hne : p.1 ≠ k := fun e => hn.1 (by rw [e]; exact List.mem_map.2 ⟨_, List.mem_of_getElem? h2, rfl⟩)
      unfold mdel at ih ⊢
      rw [List.filter_cons_of_pos (by simpa using hne), List.eraseIdx_cons_succ, ih hn.2 h2]
theorem mdel_no {L : List (K × V)} {k : K} (h : ∀ p ∈ L, p.1 ≠ k) : mdel L k = L := by
  unfold mdel
  rw [List.filter_eq_self]
  intro p hp
  simpa using h p hp
end plain
theorem mget_mset {K V : Type} [DecidableEq K] (L : List (K × V)) (k k' : K) (v : V) (hn : (L.map (·.1)).Nodup) : mget (mset L k v) k' = if k' = k then some v else mget L k' := by
  by_cases e : k' = k
  · subst e
    rw [if_pos rfl]
    cases h : mget (mset L k' v) k' with
    | none => exact absurd rfl (mget_no h _ (mset_in (v := v)))
    | some u => rcases mset_mem (mget_some h) with h | h
                · injection h with _ h; rw [h]
                · exact absurd rfl h.2
  · rw [if_neg e]
    cases h : mget L k' with
    | some u =>
      have h2 := mem_mset (k := k) (v := v) (mget_some h) e
      cases h3 : mget (mset L k v) k' with
      | none => exact absurd rfl (mget_no h3 _ h2)
      | some u2 =>
        rcases mset_mem (mget_some h3) with h4 | h4
        · injection h4 with h4 _; exact absurd h4 e
        · rw [← mget_mem hn h4.1, h]
    | none =>
      cases h3 : mget (mset L k v) k' with
      | none => rfl
      | some u2 =>
        rcases mset_mem (mget_some h3) with h4 | h4
        · injection h4 with h4 _; exact absurd h4 e
        · exact absurd rfl (mget_no h _ h4.1)
/-! ### a map's block -/
section block
variable {K V : Type}
/-- The block holds this map. -/
def Mp (ke : K → Value) (ve : V → Value) (w : World) (b : Nat) (L : List (K × V)) : Prop :=
  ∃ es ck, w.heap[b]? = some (.map es ck) ∧ Stamped es ck ∧ es.toList.map (fun e => (e.key, e.val)) = L.map (fun p => (ke p.1, ve p.2))
variable {ke : K → Value} {ve : V → Value} {w w' : World} {b : Nat} {L : List (K × V)}
theorem Mp.lt (h : Mp ke ve w b L) : b < w.heap.size := by obtain ⟨_, _, h, _⟩ := h; exact lt_of_block h
theorem Mp.ch {S : Nat → Prop} (h : Mp ke ve w b L) (c : Ch S w w') (hS : ¬ S b) : Mp ke ve w' b L := by
  obtain ⟨es, ck, h1, h2, h3⟩ := h; exact ⟨es, ck, c.get hS h1, h2, h3⟩
theorem Mp.to (h : Mp ke ve w b L) (c : Sm w w' b) : Mp ke ve w' b L := by
  have hl := h.lt
  obtain ⟨es, ck, h1, h2, h3⟩ := h; exact ⟨es, ck, (c.2 hl).trans h1, h2, h3⟩
theorem Mp.ne {j : Nat} {cs : Array Value} {t : TypeId} (h : Mp ke ve w b L) (h' : Bk w j cs t) : b ≠ j := by
  rintro rfl
  obtain ⟨_, _, h1, _⟩ := h
  obtain ⟨_, h2, _⟩ := h'
  rw [h1] at h2; cases h2
theorem Mp.not_tb {base : Nat} {ts : List TypeId} (h : Mp ke ve w b L) : ¬ Tb base w ts b := by
  rintro ⟨_, cs, t, fr, hb, _⟩
  obtain ⟨_, _, h1, _⟩ := h
  rw [h1] at hb; cases hb
theorem Mp.tb {base : Nat} {ts : List TypeId} (h : Mp ke ve w b L) (c : Ch (Tb base w ts) w w') : Mp ke ve w' b L := h.ch c h.not_tb
theorem mp_not {w1 : World} {base : Nat} {ts : List TypeId} (h : Mp ke ve w b L) (e : w1.heap[b]? = w.heap[b]?) : ¬ Tb base w1 ts b := by
  rintro ⟨_, cs, t, fr, hb, _⟩
  obtain ⟨_, _, h1, _⟩ := h
  rw [e, h1] at hb; cases hb
theorem Mp.nodup (h : Mp ke ve w b L) : (L.map (·.1)).Nodup := by
  obtain ⟨es, ck, _, ⟨_, _, h2⟩, h3⟩ := h
  have h4 : es.toList.map (·.key) = (L.map (·.1)).map ke := by
    have := congrArg (List.map (·.1)) h3
    rw [List.map_map, List.map_map] at this
    rw [List.map_map]
    exact this
  rw [h4] at h2
  exact (List.pairwise_map.1 h2).imp fun hne e => hne (by rw [e])
theorem Mp.len (h : Mp ke ve w b L) : ∃ es ck, w.heap[b]? = some (.map es ck) ∧ es.size = L.length := by
  obtain ⟨es, ck, h1, _, h3⟩ := h
  refine ⟨es, ck, h1, ?_⟩
  have := congrArg List.length h3
  simpa using this
end block
/-! ### operations -/
section ops
/-- An operation whose value nobody takes. -/
theorem L_val {P : Program} {n : Nat} {ops : Array Oper} {rest : List Oper} {N : Cn} {w w' : World} {f : Fr} {o : Oper} {v : Value} (hw : Wants ops f o) (hd : o.dst = none) (hr : (execOp (ev f) o).run P w = .ok (.value v) w')
    (h : Wl P n ops rest N f w') : Wl P n ops (o :: rest) N f w := fun Q a hq ha => by
  unfold wpList
  rw [if_pos (hw.wanted ha)]
  refine .inl ?_
  unfold Oper.wp
  rw [ha.eval, hr]
  simp only [Oper.upon]
  rw [hd]
  exact h Q _ hq ha
variable {K V : Type} {ke : K → Value} {ve : V → Value}
variable {P : Program} {n : Nat} {ops : Array Oper} {rest : List Oper} {N : Cn} {w : World} {f : Fr} {d : Tmp} {ty : TypeId} {pos : String} {af : Array Edge} {g : Option (Nat × Bool)} {dst : Option Tmp} {b : Nat} {L : List (K × V)}
theorem r_lenMap {x : Operand} {t a e : TypeId} (hu : P.underlying t = some (.map a e)) (hx : ev f x = .map (some b)) (h : Mp ke ve w b L) : (execOp (ev f) ⟨dst, .call { callee := .builtin .len, args := #[x], argTypes := #[t] }, ty, pos, af, g⟩).run P w = .ok (.value (.int .i64 L.length)) w := by
  obtain ⟨es, ck, h1, h2⟩ := h.len
  have h3 : P.underlying t = some (.map (P.mapKeyOf t) (P.mapElemOf t)) := by simp [Program.mapKeyOf, Program.mapElemOf, hu]
  simp [execOp, resolve, invoke, builtin, hx, run_len_map w t _ b es ck h3 h1, goInt, h2]
theorem L_mkmap {K V : Type} (ke : K → Value) (ve : V → Value) {t : TypeId} (hw : Wants ops f ⟨some d, .makeMap t none, ty, pos, af, g⟩) (hn : Nat.blt d n = true)
    (h : ∀ w1 b, Mp ke ve w1 b ([] : List (K × V)) → b = w.heap.size → w1.heap.size = b + 1 → Nw w w1 → Wl P n ops rest N (upd f d (.map (some b))) w1) : Wl P n ops (⟨some d, .makeMap t none, ty, pos, af, g⟩ :: rest) N f w := by
  have hr : (execOp (ev f) ⟨some d, .makeMap t none, ty, pos, af, g⟩).run P w = .ok (.value (.map (some w.heap.size))) (w.alloc (.map #[] 0)) := by
    simp [execOp, Instr.makeMap, Result.andThen]
  exact L_run hw rfl hn hr (h _ _ ⟨#[], 0, (heap_alloc w _).1, stamped_empty 0, rfl⟩ rfl (by simp) (Ch.alloc w _))
theorem L_mapclear {x : Operand} {t kt e : TypeId} (hu : P.underlying t = some (.map kt e))
    (hw : Wants ops f ⟨some d, .call { callee := .builtin .clear, args := #[x], argTypes := #[t] }, ty, pos, af, g⟩) (hnn : Nat.blt d n = true) (hx : ev f x = .map (some b)) (h : Mp ke ve w b L)
    (hc : ∀ w1, Mp ke ve w1 b ([] : List (K × V)) → w1.heap.size = w.heap.size → Ch (fun j => j = b) w w1 → Wl P n ops rest N (upd f d (.tuple #[])) w1) : Wl P n ops (⟨some d, .call { callee := .builtin .clear, args := #[x], argTypes := #[t] }, ty, pos, af, g⟩ :: rest) N f w := by
  obtain ⟨es, ck, h1, h2, h3⟩ := h
  have hr : (Builtin.clear_ #[t] ty #[.map (some b)]).run P w = .ok (.tuple #[]) { w with heap := w.heap.setIfInBounds b (.map #[] ck) } := by
    simp [Builtin.clear_, run_underlying hu, MapKept.run_getObj_map h1, run_setObj_map _ h1, Result.andThen]
  exact L_run hw rfl hnn (w' := { w with heap := w.heap.setIfInBounds b (.map #[] ck) }) (by simp [execOp, resolve, invoke, builtin, hx, hr]) (hc _ ⟨_, _, (heap_set h1).1, stamped_empty _, rfl⟩ (by simp) ⟨rfl, rfl, rfl, by simp, fun i _ hne => (heap_set h1).2 i hne⟩)
theorem L_mapclear0 {x : Operand} {t kt e : TypeId} (hu : P.underlying t = some (.map kt e))
    (hw : Wants ops f ⟨none, .call { callee := .builtin .clear, args := #[x], argTypes := #[t] }, ty, pos, af, g⟩) (hx : ev f x = .map (some b)) (h : Mp ke ve w b L)
    (hc : ∀ w1, Mp ke ve w1 b ([] : List (K × V)) → w1.heap.size = w.heap.size → Ch (fun j => j = b) w w1 → Wl P n ops rest N f w1) : Wl P n ops (⟨none, .call { callee := .builtin .clear, args := #[x], argTypes := #[t] }, ty, pos, af, g⟩ :: rest) N f w := by
  obtain ⟨es, ck, h1, h2, h3⟩ := h
  have hr : (Builtin.clear_ #[t] ty #[.map (some b)]).run P w = .ok (.tuple #[]) { w with heap := w.heap.setIfInBounds b (.map #[] ck) } := by
    simp [Builtin.clear_, run_underlying hu, MapKept.run_getObj_map h1, run_setObj_map _ h1, Result.andThen]
  exact L_val hw rfl (v := .tuple #[]) (w' := { w with heap := w.heap.setIfInBounds b (.map #[] ck) }) (by simp [execOp, resolve, invoke, builtin, hx, hr]) (hc _ ⟨_, _, (heap_set h1).1, stamped_empty _, rfl⟩ (by simp) ⟨rfl, rfl, rfl, by simp, fun i _ hne => (heap_set h1).2 i hne⟩)
variable [DecidableEq K]
/-- What is found: where, or nowhere. -/
theorem mp_find {kd : TypeDesc} (hk : ∀ k, IsKey kd (ke k)) (hi : ∀ a b, ke a = ke b → a = b) {es : Array MapEntry} {ck : Nat} (h2 : Stamped es ck) (h3 : es.toList.map (fun e => (e.key, e.val)) = L.map (fun p => (ke p.1, ve p.2))) (k : K) :
    (Instr.findNow kd (ke k) es.toList 0 = some none ∧ mget L k = none ∧ ∀ x ∈ es.toList, x.key ≠ ke k) ∨ ∃ j e v, Instr.findNow kd (ke k) es.toList 0 = some (some (j, e.val)) ∧ es.toList[j]? = some e ∧ e.key = ke k ∧ e.val = ve v ∧ L[j]? = some (k, v) := by
  have hks : ∀ x ∈ es.toList, IsKey kd x.key := by
    intro x hx
    have : (x.key, x.val) ∈ L.map (fun p => (ke p.1, ve p.2)) := by rw [← h3]; exact List.mem_map.2 ⟨x, hx, rfl⟩
    obtain ⟨p, _, e⟩ := List.mem_map.1 this
    injection e with e1 _
    rw [← e1]; exact hk _
  rcases findNow_spec (hk k) es.toList 0 hks with ⟨h4, h5⟩ | ⟨j, e, h4, h5, h6⟩
  · refine .inl ⟨h4, mget_none fun p hp hc => ?_, h5⟩
    have : (ke p.1, ve p.2) ∈ es.toList.map (fun e => (e.key, e.val)) := by rw [h3]; exact List.mem_map.2 ⟨p, hp, rfl⟩
    obtain ⟨x, hx, e⟩ := List.mem_map.1 this
    injection e with e1 _
    exact h5 x hx (by rw [e1, hc])
  · have h7 : (L.map (fun p => (ke p.1, ve p.2)))[j]? = some (e.key, e.val) := by rw [← h3, List.getElem?_map, h5]; rfl
    rw [List.getElem?_map] at h7
    cases hl : L[j]? with
    | none => rw [hl] at h7; cases h7
    | some p =>
      rw [hl] at h7
      have h8 := Option.some.inj h7
      injection h8 with h9 h10
      have hp : p.1 = k := hi _ _ (h9.trans h6)
      refine .inr ⟨j, e, p.2, by rw [h4, Nat.zero_add], h5, h6, h10.symm, ?_⟩
      obtain ⟨a, c⟩ := p
      simp only at hp
      rw [hl, hp]
theorem run_zv {t : TypeId} {z : Value} (hz : (P.info? t).bind (·.zero) = some z) : (zeroValue t).run P w = .ok z w := by
  cases hi : P.info? t with
  | none => rw [hi] at hz; cases hz
  | some i =>
    rw [hi] at hz
    simp only [Option.bind_some] at hz
    simp [zeroValue, typeInfo, hi, hz]
theorem run_lookup {t kt e : TypeId} {kd : TypeDesc} (k : K) (z : V) (hu : P.underlying t = some (.map kt e)) (hd : P.underlying kt = some kd) (hk : ∀ k, IsKey kd (ke k)) (hi : ∀ a b, ke a = ke b → a = b)
    (hz : (P.info? e).bind (·.zero) = some (ve z)) (h : Mp ke ve w b L) (ok : Bool) : (Instr.lookup t (.map (some b)) (ke k) ok).run P w = .ok (if ok then .tuple #[ve ((mget L k).getD z), .bool (mget L k).isSome] else ve ((mget L k).getD z)) w := by
  have hn := h.nodup
  obtain ⟨es, ck, h1, h2, h3⟩ := h
  have hz' := run_zv (w := w) hz
  rcases mp_find hk hi h2 h3 k with ⟨h4, h5, _⟩ | ⟨j, x, v, h4, _, _, h6, h7⟩
  · cases ok <;> simp [Instr.lookup, run_underlying hu, MapKept.run_getObj_map h1, run_checkKey hd (hk k), run_findKey hd h4, Result.andThen, h5, hz']
  · have := mget_at hn h7
    cases ok <;> simp [Instr.lookup, run_underlying hu, MapKept.run_getObj_map h1, run_checkKey hd (hk k), run_findKey hd h4, Result.andThen, this, h6]
theorem r_lookup {x y : Operand} {t kt e : TypeId} {kd : TypeDesc} (k : K) (z : V) (hu : P.underlying t = some (.map kt e)) (hd : P.underlying kt = some kd) (hk : ∀ k, IsKey kd (ke k)) (hi : ∀ a b, ke a = ke b → a = b)
    (hz : (P.info? e).bind (·.zero) = some (ve z)) (hx : ev f x = .map (some b)) (hy : ev f y = ke k) (h : Mp ke ve w b L) : (execOp (ev f) ⟨dst, .lookup t x y false, ty, pos, af, g⟩).run P w = .ok (.value (ve ((mget L k).getD z))) w := by
  have := run_lookup k z hu hd hk hi hz h false
  simp [execOp, hx, hy, this]
theorem r_lookup2 {x y : Operand} {t kt e : TypeId} {kd : TypeDesc} (k : K) (z : V) (hu : P.underlying t = some (.map kt e)) (hd : P.underlying kt = some kd) (hk : ∀ k, IsKey kd (ke k)) (hi : ∀ a b, ke a = ke b → a = b)
    (hz : (P.info? e).bind (·.zero) = some (ve z)) (hx : ev f x = .map (some b)) (hy : ev f y = ke k) (h : Mp ke ve w b L) : (execOp (ev f) ⟨dst, .lookup t x y true, ty, pos, af, g⟩).run P w = .ok (.value (.tuple #[ve ((mget L k).getD z), .bool (mget L k).isSome])) w := by
  have := run_lookup k z hu hd hk hi hz h true
  simp [execOp, hx, hy, this]
theorem toList_modify_map {α β : Type} (es : Array α) (j : Nat) (u : α → α) (m : α → β) (v : β → β) (h : ∀ a, m (u a) = v (m a)) : (es.modify j u).toList.map m = (es.toList.map m).modify j v := by
  apply List.ext_getElem?
  intro i
  simp only [List.getElem?_map, Array.getElem?_toList, Array.getElem?_modify, List.getElem?_modify]
  by_cases e : j = i
  · subst e; cases es[j]? <;> simp [h]
  · cases es[i]? <;> simp [e]
theorem map_eraseIdx' {α β : Type} (m : α → β) : ∀ (l : List α) (j : Nat), (l.eraseIdx j).map m = (l.map m).eraseIdx j
  | [], _ => by simp
  | x :: l, 0 => by simp
  | x :: l, j + 1 => by simp [map_eraseIdx' m l j]
theorem map_modify {α β : Type} (l : List α) (j : Nat) (u : α → α) (m : α → β) (v : β → β) (h : ∀ a, m (u a) = v (m a)) : (l.modify j u).map m = (l.map m).modify j v := by
  apply List.ext_getElem?
  intro i
  simp only [List.getElem?_map, List.getElem?_modify]
  by_cases e : j = i
  · subst e; cases l[j]? <;> simp [h]
  · cases l[i]? <;> simp [e]
/-- A key's value, set. -/
theorem run_mapset {t kt e : TypeId} {kd : TypeDesc} (k : K) (v : V) (hu : P.underlying t = some (.map kt e)) (hd : P.underlying kt = some kd) (hk : ∀ k, IsKey kd (ke k)) (hi : ∀ a b, ke a = ke b → a = b) (h : Mp ke ve w b L) :
    ∃ w1, (Instr.mapUpdate t (.map (some b)) (ke k) (ve v)).run P w = .ok () w1 ∧ Mp ke ve w1 b (mset L k v) ∧ w1.heap.size = w.heap.size ∧ Ch (fun j => j = b) w w1 := by
  have hn := h.nodup
  obtain ⟨es, ck, h1, h2, h3⟩ := h
  have hch : ∀ o, Ch (fun j => j = b) w { w with heap := w.heap.setIfInBounds b o } := fun o => ⟨rfl, rfl, rfl, by simp, fun i _ hne => (heap_set h1).2 i hne⟩
  rcases mp_find hk hi h2 h3 k with ⟨h4, h5, h5'⟩ | ⟨j, x, v', h4, h5, h6, h7, h8⟩
  · refine ⟨{ w with heap := w.heap.setIfInBounds b (.map (es.push { key := ke k, val := ve v, born := ck }) (ck + 1)) }, by simp [Instr.mapUpdate, run_underlying hu, MapKept.run_getObj_map h1, run_checkKey hd (hk k), run_findKey hd h4, run_setObj_map _ h1, Result.andThen], ?_, by simp, hch _⟩
    refine ⟨_, _, (heap_set h1).1, stamped_push h2 h5', ?_⟩
    unfold mset
    rw [h5, if_neg (by simp), List.map_append, Array.toList_push, List.map_append, h3]
    rfl
  · have hj : es[j]? = some x := by simpa using h5
    refine ⟨{ w with heap := w.heap.setIfInBounds b (.map (es.modify j fun e => { e with key := ke k, val := ve v }) ck) }, by simp [Instr.mapUpdate, run_underlying hu, MapKept.run_getObj_map h1, run_checkKey hd (hk k), run_findKey hd h4, hj, h6, run_keyThatStays (hk k), run_setObj_map _ h1, Result.andThen], ?_, by simp, hch _⟩
    refine ⟨_, _, (heap_set h1).1, stamped_modify h2 _ _ (fun _ _ => rfl) (fun e' _ he' => by rw [hj] at he'; cases he'; exact h6.symm), ?_⟩
    rw [mset_modify hn h8, toList_modify_map es j (fun e => { e with key := ke k, val := ve v }) (fun e => (e.key, e.val)) (fun _ => (ke k, ve v)) (fun _ => rfl), h3, map_modify L j (fun _ => (k, v)) (fun p => (ke p.1, ve p.2)) (fun _ => (ke k, ve v)) (fun _ => rfl)]
theorem L_mapset {x y z : Operand} {t kt e : TypeId} {kd : TypeDesc} (k : K) (v : V) (hu : P.underlying t = some (.map kt e)) (hd : P.underlying kt = some kd) (hk : ∀ k, IsKey kd (ke k)) (hi : ∀ a b, ke a = ke b → a = b)
    (hw : Wants ops f ⟨none, .mapUpdate t x y z, ty, pos, af, g⟩) (hx : ev f x = .map (some b)) (hy : ev f y = ke k) (hz : ev f z = ve v) (h : Mp ke ve w b L)
    (hc : ∀ w1, Mp ke ve w1 b (mset L k v) → w1.heap.size = w.heap.size → Ch (fun j => j = b) w w1 → Wl P n ops rest N f w1) : Wl P n ops (⟨none, .mapUpdate t x y z, ty, pos, af, g⟩ :: rest) N f w := by
  obtain ⟨w1, h1, h2, h3, h4⟩ := run_mapset k v hu hd hk hi h
  exact L_do hw rfl (by simp [execOp, hx, hy, hz, h1]) (hc w1 h2 h3 h4)
/-- A key, and its value, gone. -/
theorem run_mapdel {t kt e : TypeId} {kd : TypeDesc} (k : K) (hu : P.underlying t = some (.map kt e)) (hd : P.underlying kt = some kd) (hk : ∀ k, IsKey kd (ke k)) (hi : ∀ a b, ke a = ke b → a = b) (h : Mp ke ve w b L) (kt2 : TypeId) (ty : TypeId) :
    ∃ w1, (Builtin.delete_ #[t, kt2] ty #[.map (some b), ke k]).run P w = .ok (.tuple #[]) w1 ∧ Mp ke ve w1 b (mdel L k) ∧ w1.heap.size = w.heap.size ∧ Ch (fun j => j = b) w w1 := by
  have hn := h.nodup
  obtain ⟨es, ck, h1, h2, h3⟩ := h
  have hch : ∀ o, Ch (fun j => j = b) w { w with heap := w.heap.setIfInBounds b o } := fun o => ⟨rfl, rfl, rfl, by simp, fun i _ hne => (heap_set h1).2 i hne⟩
  rcases mp_find hk hi h2 h3 k with ⟨h4, h5, h5'⟩ | ⟨j, x, v', h4, h5, h6, h7, h8⟩
  · refine ⟨{ w with heap := w.heap.setIfInBounds b (.map es ck) }, by simp [Builtin.delete_, run_underlying hu, MapKept.run_getObj_map h1, run_checkKey hd (hk k), run_findKey hd h4, run_setObj_map _ h1, Result.andThen], ?_, by simp, hch _⟩
    exact ⟨_, _, (heap_set h1).1, h2, by rw [mdel_no (mget_no h5)]; exact h3⟩
  · have hj : j < es.size := by have := (List.getElem?_eq_some_iff.1 h5).1; simpa using this
    refine ⟨{ w with heap := w.heap.setIfInBounds b (.map (es.eraseIdxIfInBounds j) ck) }, by simp [Builtin.delete_, run_underlying hu, MapKept.run_getObj_map h1, run_checkKey hd (hk k), run_findKey hd h4, run_setObj_map _ h1, Result.andThen], ?_, by simp, hch _⟩
    refine ⟨_, _, (heap_set h1).1, stamped_erase h2 j, ?_⟩
    rw [mdel_erase hn h8]
    unfold Array.eraseIdxIfInBounds
    rw [dif_pos hj, Array.toList_eraseIdx, map_eraseIdx', h3, map_eraseIdx']
theorem L_mapdel {x y : Operand} {t kt e kt2 : TypeId} {kd : TypeDesc} (k : K) (hu : P.underlying t = some (.map kt e)) (hd : P.underlying kt = some kd) (hk : ∀ k, IsKey kd (ke k)) (hi : ∀ a b, ke a = ke b → a = b)
    (hw : Wants ops f ⟨some d, .call { callee := .builtin .delete, args := #[x, y], argTypes := #[t, kt2] }, ty, pos, af, g⟩) (hnn : Nat.blt d n = true) (hx : ev f x = .map (some b)) (hy : ev f y = ke k) (h : Mp ke ve w b L)
    (hc : ∀ w1, Mp ke ve w1 b (mdel L k) → w1.heap.size = w.heap.size → Ch (fun j => j = b) w w1 → Wl P n ops rest N (upd f d (.tuple #[])) w1) : Wl P n ops (⟨some d, .call { callee := .builtin .delete, args := #[x, y], argTypes := #[t, kt2] }, ty, pos, af, g⟩ :: rest) N f w := by
  obtain ⟨w1, h1, h2, h3, h4⟩ := run_mapdel k hu hd hk hi h kt2 ty
  exact L_run hw rfl hnn (by simp [execOp, resolve, invoke, builtin, hx, hy, h1]) (hc w1 h2 h3 h4)
theorem L_mapdel0 {x y : Operand} {t kt e kt2 : TypeId} {kd : TypeDesc} (k : K) (hu : P.underlying t = some (.map kt e)) (hd : P.underlying kt = some kd) (hk : ∀ k, IsKey kd (ke k)) (hi : ∀ a b, ke a = ke b → a = b)
    (hw : Wants ops f ⟨none, .call { callee := .builtin .delete, args := #[x, y], argTypes := #[t, kt2] }, ty, pos, af, g⟩) (hx : ev f x = .map (some b)) (hy : ev f y = ke k) (h : Mp ke ve w b L)
    (hc : ∀ w1, Mp ke ve w1 b (mdel L k) → w1.heap.size = w.heap.size → Ch (fun j => j = b) w w1 → Wl P n ops rest N f w1) : Wl P n ops (⟨none, .call { callee := .builtin .delete, args := #[x, y], argTypes := #[t, kt2] }, ty, pos, af, g⟩ :: rest) N f w := by
  obtain ⟨w1, h1, h2, h3, h4⟩ := run_mapdel k hu hd hk hi h kt2 ty
  exact L_val hw rfl (v := .tuple #[]) (by simp [execOp, resolve, invoke, builtin, hx, hy, h1]) (hc w1 h2 h3 h4)
end ops
/-! What the walks ask for again and again: what is told of an older world is brought to this one; what is left out is found by tactics where a law is used. -/
theorem Mp.au {K V : Type} {ke : K → Value} {ve : V → Value} {w w' : World} {b : Nat} {L : List (K × V)} (h : Mp ke ve w b L := by assumption) (c : Sm w w' b := by repeat (first | exact Sm.refl _ _ | (refine Sm.stepT (by assumption) (by intro hlt hsm; first | exact not_no | (intro he; have he2 : _ = some _ := he; have := own_base (by assumption) he2; omega) | (intro he; have he2 : _ = _ := he; omega) | (intro he; have he2 : _ = some _ := he; have := ow_base (by assumption) he2; omega) | (intro he; have := he.1; omega) | exact bk_not (by assumption) hsm rfl | exact mp_not (by assumption) hsm | exact bkm_not (by assumption) hsm rfl | exact ownm_not (by assumption) hi hsm rfl | exact owm_not (by assumption) hi hsm rfl | exact own_not (by assumption) hi hsm rfl | exact ow_not (by assumption) hi hsm rfl | (intro he; have he2 : _ = some _ := he; have := Ow.lt (by assumption) he2; omega) | (intro he; have he2 : _ = some _ := he; have := Ow.lt (by assumption) he2; have := own_base (by assumption) hi; omega) | (intro he; have he2 : _ = some _ := he; have := Ow.lt how he2; first | omega | (have := own_base (by assumption) hi; omega)) | (intro he; have he2 : _ = _ := he; have := Ow.lt how hi; omega) | (intro he; have he2 : _ = _ := he; have := own_base (by assumption) hi; omega) | (intro he; have he2 : _ = _ := he; have := ow_base (by assumption) hi; omega) | (intro he; have he2 : _ = _ := he; rw [he2] at hi; exact absurd hi (by assumption)) | (intro he; have he2 : _ = some _ := he; have h3 := own_lt (by assumption) he2; first | omega | (have h4 : _ = some _ := hi; simp [Value.ownBlock] at h4; omega)) | (intro he; have he2 : _ = some _ := he; have h3 := ow_base (by assumption) he2; have h4 : _ = some _ := hi; simp [Value.ownBlock] at h4; omega) | (intro he; have he2 : _ = some _ := he; exact absurd he2 (hsep _ hi)) | (intro he; have he2 : _ = _ := he; have := hlo _ hi; omega) | (intro he; have he2 : _ = some _ := he; have := hlo _ he2; omega) | (intro he; first | exact absurd he (by assumption) | exact absurd he.symm (by assumption)) | (intro he; have he2 : _ = _ ∨ _ = _ := he; omega)) ?_))) : Mp ke ve w' b L := Mp.to h c
end Go.Proofs.YtioonbfinnigpaaGreatDoor
