/- Parts of the proof (Map, Iter, Kind, DocN, Shelf, Kind2, Kind3, Scr1, NumP, Scr2, Srow, Apps, Glob, Clos, Kind4). -/
import Derived.Test.YtgmeojpekdekeaaGreatDoorMSa
import Derived.ChangeKeysEq
import Derived.Laws.IdiomRangeMap
import Derived.Laws.RangeAny
import Derived.Laws.StructEq
import Derived.Lib.AppendStr
import Derived.Lib.IndexBytes
import Derived.Lib.IndexLaws
import Derived.Lib.ItoaNum
import Derived.Lib.Join
import Derived.Lib.ParseIntBTie
import Derived.Lib.Split
import Derived.MapKept
import Derived.Shelf.Pu.ParseUintPublic10
import Derived.Shelf.Small.Wraps
import Derived.Shelf.Strconv.AtoiAll
import Derived.Shelf.Strconv.Itoa1
import Derived.Shelf.Strconv.Itoa2
import Derived.Shelf.Strconv.Itoa3
import Derived.Shelf.Strconv.Itoa4
import Derived.Shelf.Strconv.ParseIntPublic10
import Derived.Shelf.Strings.Builder1
import Derived.Shelf.Strings.OnBuilder
import Derived.Shelf.Strings.Prefix
import Derived.Shelf.Strings.Search2
import Derived.Shelf.Strings.Search3
import Derived.Shelf.Strings.Split
import Derived.Test.YtgmeojpekdekeaaGreatDoorProg
import Derived.Test.YtgmeojpekdekeaaGreatDoorRows
namespace Go.Proofs.YtgmeojpekdekeaaGreatDoor
open Go Go.RowKit Go.MapKept
set_option linter.unusedVariables false
set_option linter.unusedSimpArgs false
section plain
variable {K V : Type} [DecidableEq K]
def mget (L : List (K × V)) (k : K) : Option V := (L.find? (fun p => decide (p.1 = k))).map (·.2)
def mset (L : List (K × V)) (k : K) (v : V) : List (K × V) := if (mget L k).isSome then L.map (fun p => if p.1 = k then (k, v) else p) else L ++ [(k, v)]
def mdel (L : List (K × V)) (k : K) : List (K × V) := L.filter (fun p => decide (p.1 ≠ k))
theorem mget_none {L : List (K × V)} {k : K} (h : ∀ p ∈ L, p.1 ≠ k) : mget L k = none := by
  unfold mget
  rw [List.find?_eq_none.2 (fun p hp => by simpa using h p hp)]; rfl
theorem mget_at {L : List (K × V)} {k : K} {v : V} {j : Nat} (hn : (L.map (·.1)).Nodup) (h : L[j]? = some (k, v)) : mget L k = some v := by
  induction L generalizing j with
  | nil => simp at h
  | cons p L ih =>
    rw [List.map_cons, List.nodup_cons] at hn
    cases j with
    | zero => simp at h; subst h; simp [mget]
    | succ j =>
      have h2 : L[j]? = some (k, v) := by simpa using h
      have hne : p.1 ≠ k := fun e => hn.1 (by rw [e]; exact List.mem_map.2 ⟨_, List.mem_of_getElem? h2, rfl⟩)
      have := ih hn.2 h2
      unfold mget at this ⊢
      rw [List.find?_cons_of_neg (by simpa using hne)]
      exact this
theorem mset_modify {L : List (K × V)} {k : K} {v v' : V} {j : Nat} (hn : (L.map (·.1)).Nodup) (h : L[j]? = some (k, v')) : mset L k v = L.modify j (fun _ => (k, v)) := by
  unfold mset
  rw [mget_at hn h, if_pos (show (some v').isSome = true from rfl)]
  apply List.ext_getElem?
  intro i
  rw [List.getElem?_map, List.getElem?_modify]
  by_cases e : j = i
  · subst e; rw [h]; simp
  ·
   cases hi : L[i]? with
   | none => simp
   | some p =>
     have hne : p.1 ≠ k := by
       intro e2
       have h1 : (L.map (·.1))[i]? = some k := by rw [List.getElem?_map, hi, ← e2]; rfl
       have h2 : (L.map (·.1))[j]? = some k := by rw [List.getElem?_map, h]; rfl
       have hi' := (List.getElem?_eq_some_iff.1 h1).1
       exact e (((List.getElem?_inj hi' hn).1 (h1.trans h2.symm)).symm)
     simp [e, hne]
end plain
/-! ### a map's block -/
section block
variable {K V : Type}
/-- The block holds this map. -/
def Mp (ke : K → Value) (ve : V → Value) (w : World) (b : Nat) (L : List (K × V)) : Prop :=
  ∃ es ck, w.heap[b]? = some (.map es ck) ∧ Stamped es ck ∧ es.toList.map (fun e => (e.key, e.val)) = L.map (fun p => (ke p.1, ve p.2))
variable {ke : K → Value} {ve : V → Value} {w w' : World} {b : Nat} {L : List (K × V)}
theorem Mp.lt (h : Mp ke ve w b L) : b < w.heap.size := by obtain ⟨_, _, h, _⟩ := h; exact lt_of_block h
theorem Mp.ch {S : Nat → Prop} (h : Mp ke ve w b L) (c : Ch S w w') (hS : ¬ S b) : Mp ke ve w' b L := by
  obtain ⟨es, ck, h1, h2, h3⟩ := h; exact ⟨es, ck, c.get hS h1, h2, h3⟩
theorem Mp.to (h : Mp ke ve w b L) (c : Sm w w' b) : Mp ke ve w' b L := by
  have hl := h.lt
  obtain ⟨es, ck, h1, h2, h3⟩ := h; exact ⟨es, ck, (c.2 hl).trans h1, h2, h3⟩
theorem Mp.ne {j : Nat} {cs : Array Value} {t : TypeId} (h : Mp ke ve w b L) (h' : Bk w j cs t) : b ≠ j := by
  rintro rfl
  obtain ⟨_, _, h1, _⟩ := h
  obtain ⟨_, h2, _⟩ := h'
  rw [h1] at h2; cases h2
theorem Mp.not_tb {base : Nat} {ts : List TypeId} (h : Mp ke ve w b L) : ¬ Tb base w ts b := by
  rintro ⟨_, cs, t, fr, hb, _⟩
  obtain ⟨_, _, h1, _⟩ := h
  rw [h1] at hb; cases hb
theorem Mp.tb {base : Nat} {ts : List TypeId} (h : Mp ke ve w b L) (c : Ch (Tb base w ts) w w') : Mp ke ve w' b L := h.ch c h.not_tb
theorem mp_not {w1 : World} {base : Nat} {ts : List TypeId} (h : Mp ke ve w b L) (e : w1.heap[b]? = w.heap[b]?) : ¬ Tb base w1 ts b := by
  rintro ⟨_, cs, t, fr, hb, _⟩
  obtain ⟨_, _, h1, _⟩ := h
  rw [e, h1] at hb; cases hb
theorem Mp.nodup (h : Mp ke ve w b L) : (L.map (·.1)).Nodup := by
  obtain ⟨es, ck, _, ⟨_, _, h2⟩, h3⟩ := h
  have h4 : es.toList.map (·.key) = (L.map (·.1)).map ke := by
    have := congrArg (List.map (·.1)) h3
    rw [List.map_map, List.map_map] at this
    rw [List.map_map]
    exact this
  rw [h4] at h2
  exact (List.pairwise_map.1 h2).imp fun hne e => hne (by rw [e])
theorem Mp.len (h : Mp ke ve w b L) : ∃ es ck, w.heap[b]? = some (.map es ck) ∧ es.size = L.length := by
  obtain ⟨es, ck, h1, _, h3⟩ := h
  refine ⟨es, ck, h1, ?_⟩
  have := congrArg List.length h3
  simpa using this
end block
/-! ### operations -/
section ops
variable {K V : Type} {ke : K → Value} {ve : V → Value}
variable {P : Program} {n : Nat} {ops : Array Oper} {rest : List Oper} {N : Cn} {w : World} {f : Fr} {d : Tmp} {ty : TypeId} {pos : String} {af : Array Edge} {g : Option (Nat × Bool)} {dst : Option Tmp} {b : Nat} {L : List (K × V)}
theorem L_mkmap {K V : Type} (ke : K → Value) (ve : V → Value) {t : TypeId} (hw : Wants ops f ⟨some d, .makeMap t none, ty, pos, af, g⟩) (hn : Nat.blt d n = true)
    (h : ∀ w1 b, Mp ke ve w1 b ([] : List (K × V)) → b = w.heap.size → w1.heap.size = b + 1 → Nw w w1 → Wl P n ops rest N (upd f d (.map (some b))) w1) : Wl P n ops (⟨some d, .makeMap t none, ty, pos, af, g⟩ :: rest) N f w := by
  have hr : (execOp (ev f) ⟨some d, .makeMap t none, ty, pos, af, g⟩).run P w = .ok (.value (.map (some w.heap.size))) (w.alloc (.map #[] 0)) := by
    simp [execOp, Instr.makeMap, Result.andThen]
  exact L_run hw rfl hn hr (h _ _ ⟨#[], 0, (heap_alloc w _).1, stamped_empty 0, rfl⟩ rfl (by simp) (Ch.alloc w _))
variable [DecidableEq K]
/-- What is found: where, or nowhere. -/
theorem mp_find {kd : TypeDesc} (hk : ∀ k, IsKey kd (ke k)) (hi : ∀ a b, ke a = ke b → a = b) {es : Array MapEntry} {ck : Nat} (h2 : Stamped es ck) (h3 : es.toList.map (fun e => (e.key, e.val)) = L.map (fun p => (ke p.1, ve p.2))) (k : K) :
    (Instr.findNow kd (ke k) es.toList 0 = some none ∧ mget L k = none ∧ ∀ x ∈ es.toList, x.key ≠ ke k) ∨ ∃ j e v, Instr.findNow kd (ke k) es.toList 0 = some (some (j, e.val)) ∧ es.toList[j]? = some e ∧ e.key = ke k ∧ e.val = ve v ∧ L[j]? = some (k, v) := by
  have hks : ∀ x ∈ es.toList, IsKey kd x.key := by
    intro x hx
    have : (x.key, x.val) ∈ L.map (fun p => (ke p.1, ve p.2)) := by rw [← h3]; exact List.mem_map.2 ⟨x, hx, rfl⟩
    obtain ⟨p, _, e⟩ := List.mem_map.1 this
    injection e with e1 _
    rw [← e1]; exact hk _
  rcases findNow_spec (hk k) es.toList 0 hks with ⟨h4, h5⟩ | ⟨j, e, h4, h5, h6⟩
  ·
   refine .inl ⟨h4, mget_none fun p hp hc => ?_, h5⟩
   have : (ke p.1, ve p.2) ∈ es.toList.map (fun e => (e.key, e.val)) := by rw [h3]; exact List.mem_map.2 ⟨p, hp, rfl⟩
   obtain ⟨x, hx, e⟩ := List.mem_map.1 this
   injection e with e1 _
   exact h5 x hx (by rw [e1, hc])
  ·
   have h7 : (L.map (fun p => (ke p.1, ve p.2)))[j]? = some (e.key, e.val) := by rw [← h3, List.getElem?_map, h5]; rfl
   rw [List.getElem?_map] at h7
   cases hl : L[j]? with
   | none => rw [hl] at h7; cases h7
   | some p =>
     rw [hl] at h7
     have h8 := Option.some.inj h7
     injection h8 with h9 h10
     have hp : p.1 = k := hi _ _ (h9.trans h6)
     refine .inr ⟨j, e, p.2, by rw [h4, Nat.zero_add], h5, h6, h10.symm, ?_⟩
     obtain ⟨a, c⟩ := p
     simp only at hp
     rw [hl, hp]
theorem run_zv {t : TypeId} {z : Value} (hz : (P.info? t).bind (·.zero) = some z) : (zeroValue t).run P w = .ok z w := by
  cases hi : P.info? t with
  | none => rw [hi] at hz; cases hz
  | some i =>
    rw [hi] at hz
    simp only [Option.bind_some] at hz
    simp [zeroValue, typeInfo, hi, hz]
theorem run_lookup {t kt e : TypeId} {kd : TypeDesc} (k : K) (z : V) (hu : P.underlying t = some (.map kt e)) (hd : P.underlying kt = some kd) (hk : ∀ k, IsKey kd (ke k)) (hi : ∀ a b, ke a = ke b → a = b)
    (hz : (P.info? e).bind (·.zero) = some (ve z)) (h : Mp ke ve w b L) (ok : Bool) : (Instr.lookup t (.map (some b)) (ke k) ok).run P w = .ok (if ok then .tuple #[ve ((mget L k).getD z), .bool (mget L k).isSome] else ve ((mget L k).getD z)) w := by
  have hn := h.nodup
  obtain ⟨es, ck, h1, h2, h3⟩ := h
  have hz' := run_zv (w := w) hz
  rcases mp_find hk hi h2 h3 k with ⟨h4, h5, _⟩ | ⟨j, x, v, h4, _, _, h6, h7⟩
  · cases ok <;> simp [Instr.lookup, run_underlying hu, MapKept.run_getObj_map h1, run_checkKey hd (hk k), run_findKey hd h4, Result.andThen, h5, hz']
  ·
   have := mget_at hn h7
   cases ok <;> simp [Instr.lookup, run_underlying hu, MapKept.run_getObj_map h1, run_checkKey hd (hk k), run_findKey hd h4, Result.andThen, this, h6]
theorem r_lookup {x y : Operand} {t kt e : TypeId} {kd : TypeDesc} (k : K) (z : V) (hu : P.underlying t = some (.map kt e)) (hd : P.underlying kt = some kd) (hk : ∀ k, IsKey kd (ke k)) (hi : ∀ a b, ke a = ke b → a = b)
    (hz : (P.info? e).bind (·.zero) = some (ve z)) (hx : ev f x = .map (some b)) (hy : ev f y = ke k) (h : Mp ke ve w b L) : (execOp (ev f) ⟨dst, .lookup t x y false, ty, pos, af, g⟩).run P w = .ok (.value (ve ((mget L k).getD z))) w := by
  have := run_lookup k z hu hd hk hi hz h false
  simp [execOp, hx, hy, this]
theorem toList_modify_map {α β : Type} (es : Array α) (j : Nat) (u : α → α) (m : α → β) (v : β → β) (h : ∀ a, m (u a) = v (m a)) : (es.modify j u).toList.map m = (es.toList.map m).modify j v := by
  apply List.ext_getElem?
  intro i
  simp only [List.getElem?_map, Array.getElem?_toList, Array.getElem?_modify, List.getElem?_modify]
  by_cases e : j = i
  · subst e; cases es[j]? <;> simp [h]
  · cases es[i]? <;> simp [e]
theorem map_modify {α β : Type} (l : List α) (j : Nat) (u : α → α) (m : α → β) (v : β → β) (h : ∀ a, m (u a) = v (m a)) : (l.modify j u).map m = (l.map m).modify j v := by
  apply List.ext_getElem?
  intro i
  simp only [List.getElem?_map, List.getElem?_modify]
  by_cases e : j = i
  · subst e; cases l[j]? <;> simp [h]
  · cases l[i]? <;> simp [e]
/-- A key's value, set. -/
theorem run_mapset {t kt e : TypeId} {kd : TypeDesc} (k : K) (v : V) (hu : P.underlying t = some (.map kt e)) (hd : P.underlying kt = some kd) (hk : ∀ k, IsKey kd (ke k)) (hi : ∀ a b, ke a = ke b → a = b) (h : Mp ke ve w b L) :
    ∃ w1, (Instr.mapUpdate t (.map (some b)) (ke k) (ve v)).run P w = .ok () w1 ∧ Mp ke ve w1 b (mset L k v) ∧ w1.heap.size = w.heap.size ∧ Ch (fun j => j = b) w w1 := by
  have hn := h.nodup
  obtain ⟨es, ck, h1, h2, h3⟩ := h
  have hch : ∀ o, Ch (fun j => j = b) w { w with heap := w.heap.setIfInBounds b o } := fun o => ⟨rfl, rfl, rfl, by simp, fun i _ hne => (heap_set h1).2 i hne⟩
  rcases mp_find hk hi h2 h3 k with ⟨h4, h5, h5'⟩ | ⟨j, x, v', h4, h5, h6, h7, h8⟩
  ·
   refine ⟨{ w with heap := w.heap.setIfInBounds b (.map (es.push { key := ke k, val := ve v, born := ck }) (ck + 1)) }, by simp [Instr.mapUpdate, run_underlying hu, MapKept.run_getObj_map h1, run_checkKey hd (hk k), run_findKey hd h4, run_setObj_map _ h1, Result.andThen], ?_, by simp, hch _⟩
   refine ⟨_, _, (heap_set h1).1, stamped_push h2 h5', ?_⟩
   unfold mset
   rw [h5, if_neg (by simp), List.map_append, Array.toList_push, List.map_append, h3]
   rfl
  ·
   have hj : es[j]? = some x := by simpa using h5
   refine ⟨{ w with heap := w.heap.setIfInBounds b (.map (es.modify j fun e => { e with key := ke k, val := ve v }) ck) }, by simp [Instr.mapUpdate, run_underlying hu, MapKept.run_getObj_map h1, run_checkKey hd (hk k), run_findKey hd h4, hj, h6, run_keyThatStays (hk k), run_setObj_map _ h1, Result.andThen], ?_, by simp, hch _⟩
   refine ⟨_, _, (heap_set h1).1, stamped_modify h2 _ _ (fun _ _ => rfl) (fun e' _ he' => by rw [hj] at he'; cases he'; exact h6.symm), ?_⟩
   rw [mset_modify hn h8, toList_modify_map es j (fun e => { e with key := ke k, val := ve v }) (fun e => (e.key, e.val)) (fun _ => (ke k, ve v)) (fun _ => rfl), h3, map_modify L j (fun _ => (k, v)) (fun p => (ke p.1, ve p.2)) (fun _ => (ke k, ve v)) (fun _ => rfl)]
end ops
/-! What the walks ask for again and again: what is told of an older world is brought to this one; what is left out is found by tactics where a law is used. -/
theorem Mp.au {K V : Type} {ke : K → Value} {ve : V → Value} {w w' : World} {b : Nat} {L : List (K × V)} (h : Mp ke ve w b L := by assumption) (c : Sm w w' b := by repeat (first | exact Sm.refl _ _ | (refine Sm.stepT (by assumption) (by intro hlt hsm; first | exact not_no | (intro he; have he2 : _ = some _ := he; have := own_base (by assumption) he2; omega) | (intro he; have he2 : _ = _ := he; omega) | (intro he; have he2 : _ = some _ := he; have := ow_base (by assumption) he2; omega) | (intro he; have := he.1; omega) | exact bk_not (by assumption) hsm rfl | exact mp_not (by assumption) hsm | exact bkm_not (by assumption) hsm rfl | exact ownm_not (by assumption) hi hsm rfl | exact owm_not (by assumption) hi hsm rfl | exact own_not (by assumption) hi hsm rfl | exact ow_not (by assumption) hi hsm rfl | (intro he; have he2 : _ = some _ := he; have := Ow.lt (by assumption) he2; omega) | (intro he; have he2 : _ = some _ := he; have := Ow.lt (by assumption) he2; have := own_base (by assumption) hi; omega) | (intro he; have he2 : _ = some _ := he; have := Ow.lt how he2; first | omega | (have := own_base (by assumption) hi; omega)) | (intro he; have he2 : _ = _ := he; have := Ow.lt how hi; omega) | (intro he; have he2 : _ = _ := he; have := own_base (by assumption) hi; omega) | (intro he; have he2 : _ = _ := he; have := ow_base (by assumption) hi; omega) | (intro he; have he2 : _ = _ := he; rw [he2] at hi; exact absurd hi (by assumption)) | (intro he; have he2 : _ = some _ := he; have h3 := own_lt (by assumption) he2; first | omega | (have h4 : _ = some _ := hi; simp [Value.ownBlock] at h4; omega)) | (intro he; have he2 : _ = some _ := he; have h3 := ow_base (by assumption) he2; have h4 : _ = some _ := hi; simp [Value.ownBlock] at h4; omega) | (intro he; have he2 : _ = some _ := he; exact absurd he2 (hsep _ hi)) | (intro he; have he2 : _ = _ := he; have := hlo _ hi; omega) | (intro he; have he2 : _ = some _ := he; have := hlo _ he2; omega) | (intro he; first | exact absurd he (by assumption) | exact absurd he.symm (by assumption)) | (intro he; have he2 : _ = _ ∨ _ = _ := he; omega)) ?_))) : Mp ke ve w' b L := Mp.to h c
end Go.Proofs.YtgmeojpekdekeaaGreatDoor

namespace Go.Proofs.YtgmeojpekdekeaaGreatDoor
open Go Go.RowKit Go.MapKept
set_option linter.unusedVariables false
set_option linter.unusedSimpArgs false
section map
variable {K V : Type} (ke : K → Value) (ve : V → Value)
/-- An iterator over a map: what it has handed out. -/
def Itm (w : World) (bi bm : Nat) (L D : List (K × V)) : Prop :=
  ∃ (es : Array MapEntry) (ck : Nat) (seen : Array Nat) (S : List MapEntry), w.heap[bm]? = some (.map es ck) ∧ Stamped es ck ∧ es.toList.map (fun e => (e.key, e.val)) = L.map (fun p => (ke p.1, ve p.2)) ∧ w.heap[bi]? = some (.mapIter (some bm) ck seen ck) ∧
    seen.toList = S.map (·.born) ∧ (∀ e ∈ S, e ∈ es.toList) ∧ S.map (fun e => (e.key, e.val)) = D.map (fun p => (ke p.1, ve p.2)) ∧ (∀ p ∈ D, p ∈ L) ∧ D.Nodup
variable {ke : K → Value} {ve : V → Value} {w w' : World} {bi bm : Nat} {L D : List (K × V)}
theorem Itm.ch {S : Nat → Prop} (h : Itm ke ve w bi bm L D) (c : Ch S w w') (h1 : ¬ S bi) (h2 : ¬ S bm) : Itm ke ve w' bi bm L D := by
  obtain ⟨es, ck, seen, Q, k1, k2, k3, k4, k5⟩ := h
  exact ⟨es, ck, seen, Q, c.get h2 k1, k2, k3, c.get h1 k4, k5⟩
theorem Itm.lt (h : Itm ke ve w bi bm L D) : bi < w.heap.size := by obtain ⟨_, _, _, _, _, _, _, h, _⟩ := h; exact lt_of_block h
theorem Itm.to (h : Itm ke ve w bi bm L D) (c1 : Sm w w' bi) (c2 : Sm w w' bm) : Itm ke ve w' bi bm L D := by
  obtain ⟨es, ck, seen, Q, k1, k2, k3, k4, k5⟩ := h
  exact ⟨es, ck, seen, Q, (c2.2 (lt_of_block k1)).trans k1, k2, k3, (c1.2 (lt_of_block k4)).trans k4, k5⟩
theorem Itm.mp (h : Itm ke ve w bi bm L D) : Mp ke ve w bm L := by
  obtain ⟨es, ck, seen, Q, k1, k2, k3, _⟩ := h
  exact ⟨es, ck, k1, k2, k3⟩
theorem Itm.sub (h : Itm ke ve w bi bm L D) : ∀ p ∈ D, p ∈ L := by
  obtain ⟨es, ck, seen, Q, k1, k2, k3, k4, k5, k6, k7, k8, k9⟩ := h
  exact k8
theorem Itm.nodup (h : Itm ke ve w bi bm L D) : D.Nodup := by
  obtain ⟨es, ck, seen, Q, k1, k2, k3, k4, k5, k6, k7, k8, k9⟩ := h
  exact k9
theorem Itm.ne (h : Itm ke ve w bi bm L D) : bi ≠ bm := by
  obtain ⟨es, ck, seen, Q, k1, k2, k3, k4, _⟩ := h
  rintro rfl
  rw [k1] at k4; cases k4
end map
section ops
variable {K V : Type} {ke : K → Value} {ve : V → Value}
variable {P : Program} {n : Nat} {ops : Array Oper} {rest : List Oper} {N : Cn} {w : World} {f : Fr} {d : Tmp} {ty : TypeId} {pos : String} {af : Array Edge} {g : Option (Nat × Bool)} {dst : Option Tmp} {bi bm : Nat} {L D : List (K × V)}
theorem r_ext1_0 {x : Operand} {a : Value} (hx : ev f x = .tuple #[a]) : (execOp (ev f) ⟨dst, .extract x 0, ty, pos, af, g⟩).run P w = .ok (.value a) w := r_extract hx rfl
theorem eq_struct {t : TypeId} {fs : Array Field} {xs ys : Array Value} (ht : P.underlying t = some (.struct fs)) (hp : P.stoodInHeld t = false) : (Op.equal t (.agg xs) (.agg ys)).run P w = (Op.eqFields 9999 xs ys fs.toList).run P w := by
  have e : P.fieldsOf t = fs := by simp [Program.fieldsOf, ht]
  have := run_equalIn_struct (P := P) w 9999 t xs ys (by rw [e]; exact ht) hp
  rw [e] at this
  exact this
theorem eqF_nil {d : Nat} {xs ys : Array Value} : (Op.eqFields d xs ys []).run P w = .ok (decide True) w := by simp [Op.eqFields]
theorem eqF_cons {d : Nat} {xs ys : Array Value} {fs : List Field} {f : Field} {a b : Value} {p q : Prop} [Decidable p] [Decidable q] (hn : f.name ≠ "_") (hk : P.plainKey f.type = true) (hx : xs[f.offset]? = some a) (hy : ys[f.offset]? = some b)
    (he : (Op.equalIn d f.type a b).run P w = .ok (decide p) w) (hr : (Op.eqFields d xs ys fs).run P w = .ok (decide q) w) : (Op.eqFields d xs ys (f :: fs)).run P w = .ok (decide (p ∧ q)) w := by
  simp only [Op.eqFields, if_pos hn, Sem.run_bind, run_part_plain w hk hx, run_part_plain w hk hy, he, Result.andThen_ok]
  by_cases hp : p
  ·
   rw [decide_eq_true hp]; simp only [Bool.not_true, Bool.false_eq_true, if_false, hr]
   simp [hp]
  · rw [decide_eq_false hp]; simp [hp]
theorem eqI_int {d : Nat} {t : TypeId} {k : IntKind} {a b : Int} (h : P.underlying t = some (.int k)) : (Op.equalIn (d + 1) t (.int k a) (.int k b)).run P w = .ok (decide (a = b)) w := by
  rw [run_equalIn_int w d t k k a b h]
  by_cases e : a = b <;> simp [e]
theorem eqI_string {d : Nat} {t : TypeId} {a b : ByteArray} (h : P.underlying t = some .string) : (Op.equalIn (d + 1) t (.string a) (.string b)).run P w = .ok (decide (a = b)) w := by
  rw [run_equalIn_string w d t a b h, ← beq_toListBytes]
  by_cases e : a = b
  · rw [decide_eq_true e, (bytes_beq a b).2 e]
  ·
   rw [decide_eq_false e]
   cases h2 : a == b with
   | false => rfl
   | true => exact absurd ((bytes_beq a b).1 h2) e
def putA : List (Nat × Value) → List Value → Option (List Value)
  | [], cs => some cs
  | (i, v) :: r, cs => if i < cs.length then putA r (cs.set i v) else none
theorem r_eqlR {x y : Operand} {t : TypeId} {xs ys : Array Value} {p : Prop} [Decidable p] (hx : ev f x = .agg xs) (hy : ev f y = .agg ys) (hg : P.eqGuardType P.depth t = false) (h : (Op.equal t (.agg xs) (.agg ys)).run P w = .ok (decide p) w) : (execOp (ev f) ⟨dst, .binOp .eql t x y t, ty, pos, af, g⟩).run P w = .ok (.value (.bool (decide p))) w := by
  simp [execOp, hx, hy, eqGuard, binOp, h, hg]
theorem r_neqR {x y : Operand} {t : TypeId} {xs ys : Array Value} {p : Prop} [Decidable p] (hx : ev f x = .agg xs) (hy : ev f y = .agg ys) (hg : P.eqGuardType P.depth t = false) (h : (Op.equal t (.agg xs) (.agg ys)).run P w = .ok (decide p) w) : (execOp (ev f) ⟨dst, .binOp .neq t x y t, ty, pos, af, g⟩).run P w = .ok (.value (.bool (decide (¬ p)))) w := by
  simp [execOp, hx, hy, eqGuard, binOp, h, hg]
/-! ### texts -/
def Its (w : World) (bi : Nat) (s : ByteArray) (at_ : Nat) : Prop := w.heap[bi]? = some (.stringIter s at_)
theorem Its.to {w w' : World} {s : ByteArray} {a : Nat} (h : Its w bi s a) (c : Sm w w' bi) : Its w' bi s a := (c.2 (lt_of_block h)).trans h
theorem L_ranges {x : Operand} {t : TypeId} {s : ByteArray} (hu : P.underlying t = some .string) (hw : Wants ops f ⟨some d, .range t x, ty, pos, af, g⟩) (hn : Nat.blt d n = true) (hx : ev f x = .string s)
    (hc : ∀ w1 bi, Its w1 bi s 0 → bi = w.heap.size → w1.heap.size = bi + 1 → Nw w w1 → Wl P n ops rest N (upd f d (.pointer (some ⟨bi, 0, none⟩))) w1) : Wl P n ops (⟨some d, .range t x, ty, pos, af, g⟩ :: rest) N f w := by
  have hr := run_range_string (P := P) w t s hu
  exact L_run hw rfl hn (by simp [execOp, hx, hr]; rfl) (hc (w.alloc (.stringIter s 0)) _ (heap_alloc w _).1 rfl (by simp) (Ch.alloc w _))
theorem L_nexts {x : Operand} {s : ByteArray} {a : Nat} (hw : Wants ops f ⟨some d, .next x true, ty, pos, af, g⟩) (hn : Nat.blt d n = true) (hx : ev f x = .pointer (some ⟨bi, 0, none⟩)) (h : Its w bi s a)
    (h0 : ¬ a < s.size → Wl P n ops rest N (upd f d (.tuple #[.bool false])) w)
    (hc : ∀ w1, a < s.size → Its w1 bi s (a + (Utf8.decode s a).2) → w1.heap.size = w.heap.size → Ch (fun j => j = bi) w w1 → Wl P n ops rest N (upd f d (.tuple #[.bool true, .int .i64 a, .int .i32 (Utf8.decode s a).1])) w1) : Wl P n ops (⟨some d, .next x true, ty, pos, af, g⟩ :: rest) N f w := by
  by_cases hl : a < s.size
  ·
   refine L_run hw rfl hn (w' := { w with heap := w.heap.setIfInBounds bi (.stringIter s (a + (Utf8.decode s a).2)) }) ?_ (hc _ hl (heap_set h).1 (by simp) ⟨rfl, rfl, rfl, by simp, fun i _ hi => (heap_set h).2 i hi⟩)
   simp only [execOp, hx, Instr.next, getObj, setObj, Sem.run_bind, Sem.run, show w.heap[bi]? = some (.stringIter s a) from h, Result.andThen, hl, if_true]
   simp [goInt]
  ·
   refine L_run hw rfl hn ?_ (h0 hl)
   simp [execOp, hx, Instr.next, getObj, Sem.run, show w.heap[bi]? = some (.stringIter s a) from h, hl]
end ops
/-! ### changes by the blocks' types, or to maps -/
def Tm (base : Nat) (w : World) (ts : List TypeId) (j : Nat) : Prop := base ≤ j ∧ ((∃ cs t fr, w.heap[j]? = some (.cells cs t fr) ∧ t ∈ ts) ∨ ∃ es ck, w.heap[j]? = some (.map es ck))
theorem Tm.not_bk {base : Nat} {w : World} {ts : List TypeId} {j : Nat} {cs : Array Value} {t : TypeId} (h : Bk w j cs t) (ht : ts.contains t = false) : ¬ Tm base w ts j := by
  rintro ⟨hb, h1 | ⟨es, ck, h1⟩⟩
  · exact Tb.not_bk h ht ⟨hb, h1⟩
  ·
   obtain ⟨fr, h2, _⟩ := h
   rw [h1] at h2; cases h2
theorem bkm_not {w w1 : World} {base b : Nat} {ts : List TypeId} {cs : Array Value} {t : TypeId} (h : Bk w b cs t) (e : w1.heap[b]? = w.heap[b]?) (ht : ts.contains t = false) : ¬ Tm base w1 ts b := Tm.not_bk (h.sm e) ht
theorem ownm_not {w w1 : World} {base base' e sz n i : Nat} {v : Value} {xs : List Value} {ts : List TypeId} (h : w.ownsRow base e sz v n xs) (hi : v.ownBlock = some i) (he : w1.heap[i]? = w.heap[i]?) (ht : ts.contains e = false) : ¬ Tm base' w1 ts i := by
  obtain ⟨cs, hb⟩ := (Ow.of h).bk hi
  exact bkm_not hb he ht
theorem owm_not {w w1 : World} {base base' e sz n i : Nat} {v : Value} {xs : List Value} {ts : List TypeId} (h : Ow w base e sz v n xs) (hi : v.ownBlock = some i) (he : w1.heap[i]? = w.heap[i]?) (ht : ts.contains e = false) : ¬ Tm base' w1 ts i := by
  obtain ⟨cs, hb⟩ := h.bk hi
  exact bkm_not hb he ht
theorem Bk.sl {w : World} {b : Nat} {cs : Array Value} {t : TypeId} (h : Bk w b cs t) : Sl w (.slice (some ⟨b, 0, none⟩) cs.size cs.size) 1 cs.size cs.toList :=
  ⟨by simp, .inr ⟨b, 0, cs.size, cs, t, rfl, Nat.le_refl _, h.rk, fun i x hx => by simpa using hx⟩⟩
theorem r_loadsub {P : Program} {w : World} {f : Fr} {dst : Option Tmp} {ty : TypeId} {pos : String} {af : Array Edge} {g : Option (Nat × Bool)} {x : Operand} {t e : TypeId} {b i m : Nat} {cs : Array Value} {us : List Value} {dd : TypeDesc} (hu : P.underlying t = some dd) (hd : (match dd with | .struct _ | .array _ _ => true | _ => false) = true) (hi : (P.info? t).map (·.size) = some m)
    (hx : ev f x = .pointer (some ⟨b, i, none⟩)) (hb : Bk w b cs e) (hm' : Nat.ble (i + m) cs.size = true) (hus : (cs.toList.drop i).take m = us) : (execOp (ev f) ⟨dst, .load t x, ty, pos, af, g⟩).run P w = .ok (.value (.agg us.toArray)) w := by
  have hm : i + m ≤ cs.size := Nat.le_of_ble_eq_true hm'
  refine r_loadSlrow (v := .slice (some ⟨b, 0, none⟩) cs.size cs.size) (i := i) hu hd hi ?_ (by rw [hx]; show _ = Value.pointer (some ⟨b, 0 + i, none⟩); rw [Nat.zero_add]) hb.sl ?_
  · rw [← hus, List.length_take, List.length_drop, Array.length_toList]; omega
  ·
   intro j u hj
   rw [← hus, List.getElem?_take] at hj
   split at hj
   · rw [List.getElem?_drop] at hj; exact hj
   · cases hj
/-! ### results that lie in cells -/
/-! What the walks ask for again and again: what is told of an older world is brought to this one; what is left out is found by tactics where a law is used. -/
theorem Itm.au {K V : Type} {ke : K → Value} {ve : V → Value} {w w' : World} {bi bm : Nat} {L D : List (K × V)} (h : Itm ke ve w bi bm L D := by assumption) (c1 : Sm w w' bi := by repeat (first | exact Sm.refl _ _ | (refine Sm.stepT (by assumption) (by intro hlt hsm; first | exact not_no | (intro he; have he2 : _ = some _ := he; have := own_base (by assumption) he2; omega) | (intro he; have he2 : _ = _ := he; omega) | (intro he; have he2 : _ = some _ := he; have := ow_base (by assumption) he2; omega) | (intro he; have := he.1; omega) | exact bk_not (by assumption) hsm rfl | exact mp_not (by assumption) hsm | exact bkm_not (by assumption) hsm rfl | exact ownm_not (by assumption) hi hsm rfl | exact owm_not (by assumption) hi hsm rfl | exact own_not (by assumption) hi hsm rfl | exact ow_not (by assumption) hi hsm rfl | (intro he; have he2 : _ = some _ := he; have := Ow.lt (by assumption) he2; omega) | (intro he; have he2 : _ = some _ := he; have := Ow.lt (by assumption) he2; have := own_base (by assumption) hi; omega) | (intro he; have he2 : _ = some _ := he; have := Ow.lt how he2; first | omega | (have := own_base (by assumption) hi; omega)) | (intro he; have he2 : _ = _ := he; have := Ow.lt how hi; omega) | (intro he; have he2 : _ = _ := he; have := own_base (by assumption) hi; omega) | (intro he; have he2 : _ = _ := he; have := ow_base (by assumption) hi; omega) | (intro he; have he2 : _ = _ := he; rw [he2] at hi; exact absurd hi (by assumption)) | (intro he; have he2 : _ = some _ := he; have h3 := own_lt (by assumption) he2; first | omega | (have h4 : _ = some _ := hi; simp [Value.ownBlock] at h4; omega)) | (intro he; have he2 : _ = some _ := he; have h3 := ow_base (by assumption) he2; have h4 : _ = some _ := hi; simp [Value.ownBlock] at h4; omega) | (intro he; have he2 : _ = some _ := he; exact absurd he2 (hsep _ hi)) | (intro he; have he2 : _ = _ := he; have := hlo _ hi; omega) | (intro he; have he2 : _ = some _ := he; have := hlo _ he2; omega) | (intro he; first | exact absurd he (by assumption) | exact absurd he.symm (by assumption)) | (intro he; have he2 : _ = _ ∨ _ = _ := he; omega)) ?_))) (c2 : Sm w w' bm := by repeat (first | exact Sm.refl _ _ | (refine Sm.stepT (by assumption) (by intro hlt hsm; first | exact not_no | (intro he; have he2 : _ = some _ := he; have := own_base (by assumption) he2; omega) | (intro he; have he2 : _ = _ := he; omega) | (intro he; have he2 : _ = some _ := he; have := ow_base (by assumption) he2; omega) | (intro he; have := he.1; omega) | exact bk_not (by assumption) hsm rfl | exact mp_not (by assumption) hsm | exact bkm_not (by assumption) hsm rfl | exact ownm_not (by assumption) hi hsm rfl | exact owm_not (by assumption) hi hsm rfl | exact own_not (by assumption) hi hsm rfl | exact ow_not (by assumption) hi hsm rfl | (intro he; have he2 : _ = some _ := he; have := Ow.lt (by assumption) he2; omega) | (intro he; have he2 : _ = some _ := he; have := Ow.lt (by assumption) he2; have := own_base (by assumption) hi; omega) | (intro he; have he2 : _ = some _ := he; have := Ow.lt how he2; first | omega | (have := own_base (by assumption) hi; omega)) | (intro he; have he2 : _ = _ := he; have := Ow.lt how hi; omega) | (intro he; have he2 : _ = _ := he; have := own_base (by assumption) hi; omega) | (intro he; have he2 : _ = _ := he; have := ow_base (by assumption) hi; omega) | (intro he; have he2 : _ = _ := he; rw [he2] at hi; exact absurd hi (by assumption)) | (intro he; have he2 : _ = some _ := he; have h3 := own_lt (by assumption) he2; first | omega | (have h4 : _ = some _ := hi; simp [Value.ownBlock] at h4; omega)) | (intro he; have he2 : _ = some _ := he; have h3 := ow_base (by assumption) he2; have h4 : _ = some _ := hi; simp [Value.ownBlock] at h4; omega) | (intro he; have he2 : _ = some _ := he; exact absurd he2 (hsep _ hi)) | (intro he; have he2 : _ = _ := he; have := hlo _ hi; omega) | (intro he; have he2 : _ = some _ := he; have := hlo _ he2; omega) | (intro he; first | exact absurd he (by assumption) | exact absurd he.symm (by assumption)) | (intro he; have he2 : _ = _ ∨ _ = _ := he; omega)) ?_))) : Itm ke ve w' bi bm L D := Itm.to h c1 c2
theorem Its.au {w w' : World} {bi : Nat} {s : ByteArray} {a : Nat} (h : Its w bi s a := by assumption) (c : Sm w w' bi := by repeat (first | exact Sm.refl _ _ | (refine Sm.stepT (by assumption) (by intro hlt hsm; first | exact not_no | (intro he; have he2 : _ = some _ := he; have := own_base (by assumption) he2; omega) | (intro he; have he2 : _ = _ := he; omega) | (intro he; have he2 : _ = some _ := he; have := ow_base (by assumption) he2; omega) | (intro he; have := he.1; omega) | exact bk_not (by assumption) hsm rfl | exact mp_not (by assumption) hsm | exact bkm_not (by assumption) hsm rfl | exact ownm_not (by assumption) hi hsm rfl | exact owm_not (by assumption) hi hsm rfl | exact own_not (by assumption) hi hsm rfl | exact ow_not (by assumption) hi hsm rfl | (intro he; have he2 : _ = some _ := he; have := Ow.lt (by assumption) he2; omega) | (intro he; have he2 : _ = some _ := he; have := Ow.lt (by assumption) he2; have := own_base (by assumption) hi; omega) | (intro he; have he2 : _ = some _ := he; have := Ow.lt how he2; first | omega | (have := own_base (by assumption) hi; omega)) | (intro he; have he2 : _ = _ := he; have := Ow.lt how hi; omega) | (intro he; have he2 : _ = _ := he; have := own_base (by assumption) hi; omega) | (intro he; have he2 : _ = _ := he; have := ow_base (by assumption) hi; omega) | (intro he; have he2 : _ = _ := he; rw [he2] at hi; exact absurd hi (by assumption)) | (intro he; have he2 : _ = some _ := he; have h3 := own_lt (by assumption) he2; first | omega | (have h4 : _ = some _ := hi; simp [Value.ownBlock] at h4; omega)) | (intro he; have he2 : _ = some _ := he; have h3 := ow_base (by assumption) he2; have h4 : _ = some _ := hi; simp [Value.ownBlock] at h4; omega) | (intro he; have he2 : _ = some _ := he; exact absurd he2 (hsep _ hi)) | (intro he; have he2 : _ = _ := he; have := hlo _ hi; omega) | (intro he; have he2 : _ = some _ := he; have := hlo _ he2; omega) | (intro he; first | exact absurd he (by assumption) | exact absurd he.symm (by assumption)) | (intro he; have he2 : _ = _ ∨ _ = _ := he; omega)) ?_))) : Its w' bi s a := Its.to h c
end Go.Proofs.YtgmeojpekdekeaaGreatDoor

namespace Go.Proofs.YtgmeojpekdekeaaGreatDoor
open Go Go.RowKit
set_option linter.unusedVariables false
set_option maxRecDepth 100000
set_option linter.unusedSimpArgs false
def greatC (c : Int) : Prop := 65 ≤ c ∧ c ≤ 90
def smallC (c : Int) : Prop := 97 ≤ c ∧ c ≤ 122
def digitC (c : Int) : Prop := 48 ≤ c ∧ c ≤ 57
instance (c : Int) : Decidable (greatC c) := inferInstanceAs (Decidable (_ ∧ _))
instance (c : Int) : Decidable (smallC c) := inferInstanceAs (Decidable (_ ∧ _))
instance (c : Int) : Decidable (digitC c) := inferInstanceAs (Decidable (_ ∧ _))
def nameC (c : Int) : Prop := greatC c ∨ smallC c ∨ digitC c
instance (c : Int) : Decidable (nameC c) := inferInstanceAs (Decidable (_ ∨ _))
theorem bool_dec {p q : Prop} [Decidable p] [Decidable q] (h : p ↔ q) : (Value.bool (decide p)) = .bool (decide q) := by
  by_cases hp : p
  · rw [decide_eq_true hp, decide_eq_true (h.1 hp)]
  · rw [decide_eq_false hp, decide_eq_false (fun hq => hp (h.2 hq))]
theorem bool_t {q : Prop} [Decidable q] (h : q) : (Value.bool true) = .bool (decide q) := by rw [decide_eq_true h]
theorem bool_f {q : Prop} [Decidable q] (h : ¬ q) : (Value.bool false) = .bool (decide q) := by rw [decide_eq_false h]
theorem great_walk (c : Int) (w0 : World) : Does Tryz.prog 63 #[.int .i32 c] w0 (fun r w' => r = .bool (decide (greatC c)) ∧ w' = w0) := by
  refine fn_of (n := 9) (args := [.int .i32 c]) Tryz.func63 rfl rfl rfl (W_seq (W_region (L_r (r_ab rfl) (L_nil (W_seq (W_region (L_r (r_mi rfl) (L_r (r_geq rfl rfl) ?_))))))))
  refine L_r (r_mb rfl) ?_
  refine L_case (d := 5) rfl (fun h5 => ?_) (fun h5 => ?_)
  ·
   refine L_g (r_mi rfl) ?_
   refine L_g (r_leq rfl rfl) (L_r (r_pt rfl rfl) (L_r (r_ab rfl) (L_nil (W_ret ?_))))
   refine ret1 (v := .bool _) rfl rfl ?_
   exact ⟨by first | (apply bool_dec; unfold greatC; omega) | (apply bool_t; unfold greatC; omega) | (apply bool_f; unfold greatC; omega), rfl⟩
  ·
   refine L_ps (L_ps (L_r (r_pf rfl rfl) (L_r (r_ab rfl) (L_nil (W_ret ?_)))))
   refine ret1 (v := .bool _) rfl rfl ?_
   exact ⟨by first | (apply bool_dec; unfold greatC; omega) | (apply bool_t; unfold greatC; omega) | (apply bool_f; unfold greatC; omega), rfl⟩
theorem small_walk (c : Int) (w0 : World) : Does Tryz.prog 64 #[.int .i32 c] w0 (fun r w' => r = .bool (decide (smallC c)) ∧ w' = w0) := by
  refine fn_of (n := 9) (args := [.int .i32 c]) Tryz.func64 rfl rfl rfl (W_seq (W_region (L_r (r_ab rfl) (L_nil (W_seq (W_region (L_r (r_mi rfl) (L_r (r_geq rfl rfl) ?_))))))))
  refine L_r (r_mb rfl) ?_
  refine L_case (d := 5) rfl (fun h5 => ?_) (fun h5 => ?_)
  ·
   refine L_g (r_mi rfl) ?_
   refine L_g (r_leq rfl rfl) (L_r (r_pt rfl rfl) (L_r (r_ab rfl) (L_nil (W_ret ?_))))
   refine ret1 (v := .bool _) rfl rfl ?_
   exact ⟨by first | (apply bool_dec; unfold smallC; omega) | (apply bool_t; unfold smallC; omega) | (apply bool_f; unfold smallC; omega), rfl⟩
  ·
   refine L_ps (L_ps (L_r (r_pf rfl rfl) (L_r (r_ab rfl) (L_nil (W_ret ?_)))))
   refine ret1 (v := .bool _) rfl rfl ?_
   exact ⟨by first | (apply bool_dec; unfold smallC; omega) | (apply bool_t; unfold smallC; omega) | (apply bool_f; unfold smallC; omega), rfl⟩
theorem nmc_walk (c : Int) (w0 : World) : Does Tryz.prog 62 #[.int .i32 c] w0 (fun r w' => r = .bool (decide (nameC c)) ∧ w' = w0) := by
  refine fn_of (n := 17) (args := [.int .i32 c]) Tryz.func62 rfl rfl rfl (W_seq (W_region (L_r (r_ab rfl) (L_nil (W_seq (W_region (L_r (r_mi rfl) ?_)))))))
  refine L_call (.plain rfl) rfl rfl (r_call Tryz.func63 rfl rfl rfl (by rfl)) (great_walk c _) ?_
  rintro v4 w1 ⟨rfl, rfl⟩
  refine L_r (r_mb rfl) ?_
  refine L_caseb (d := 5) rfl (fun h5 => ?_) (fun h5 => ?_)
  ·
   refine L_ps (L_ps (L_r (r_pt rfl rfl) (L_r (r_mb rfl) (L_ps (L_ps (L_ps ?_))))))
   refine L_pu ?_
   refine L_pu (L_ps (L_r (r_pt rfl rfl) (L_r (r_ab rfl) (L_nil (W_ret ?_)))))
   refine ret1 (v := .bool _) rfl rfl ?_
   refine ⟨?_, rfl⟩
   (try simp only [decide_eq_true_eq, decide_eq_false_iff_not] at *)
   first | (apply bool_dec; unfold nameC greatC smallC digitC at *; omega) | (apply bool_t; unfold nameC greatC smallC digitC at *; omega) | (apply bool_f; unfold nameC greatC smallC digitC at *; omega)
  ·
   refine L_g (r_mi rfl) ?_
   refine L_call (.yes 2 false rfl rfl) rfl rfl (r_call Tryz.func64 rfl rfl rfl (by rfl)) (small_walk c _) ?_
   rintro v7 w2 ⟨rfl, rfl⟩
   refine L_r (r_pf rfl rfl) (L_r (r_mb rfl) ?_)
   refine L_caseb (d := 9) rfl (fun h9 => ?_) (fun h9 => ?_)
   ·
    refine L_ps (L_ps (L_ps ?_))
    refine L_pu ?_
    refine L_pu (L_ps (L_r (r_pt rfl rfl) (L_r (r_ab rfl) (L_nil (W_ret ?_)))))
    refine ret1 (v := .bool _) rfl rfl ?_
    refine ⟨?_, rfl⟩
    (try simp only [decide_eq_true_eq, decide_eq_false_iff_not] at *)
    first | (apply bool_dec; unfold nameC greatC smallC digitC at *; omega) | (apply bool_t; unfold nameC greatC smallC digitC at *; omega) | (apply bool_f; unfold nameC greatC smallC digitC at *; omega)
   ·
    refine L_g (r_mi rfl) ?_
    refine L_g (r_geq rfl rfl) ?_
    refine L_g (r_mb rfl) ?_
    refine L_case (d := 12) rfl (fun h12 => ?_) (fun h12 => ?_)
    ·
     refine L_g (r_mi rfl) ?_
     refine L_g (r_leq rfl rfl) ?_
     refine L_g (r_pt rfl rfl) (L_r (r_pf rfl rfl) (L_r (r_ab rfl) (L_nil (W_ret ?_))))
     refine ret1 (v := .bool _) rfl rfl ?_
     refine ⟨?_, rfl⟩
     (try simp only [decide_eq_true_eq, decide_eq_false_iff_not] at *)
     first | (apply bool_dec; unfold nameC greatC smallC digitC at *; omega) | (apply bool_t; unfold nameC greatC smallC digitC at *; omega) | (apply bool_f; unfold nameC greatC smallC digitC at *; omega)
    ·
     refine L_ps (L_ps ?_)
     refine L_g (r_pf rfl rfl) (L_r (r_pf rfl rfl) (L_r (r_ab rfl) (L_nil (W_ret ?_))))
     refine ret1 (v := .bool _) rfl rfl ?_
     refine ⟨?_, rfl⟩
     (try simp only [decide_eq_true_eq, decide_eq_false_iff_not] at *)
     first | (apply bool_dec; unfold nameC greatC smallC digitC at *; omega) | (apply bool_t; unfold nameC greatC smallC digitC at *; omega) | (apply bool_f; unfold nameC greatC smallC digitC at *; omega)
def allN (s : ByteArray) : Prop := ∀ i, i < s.size → nameC (bat s i).toNat
instance (s : ByteArray) : Decidable (allN s) := inferInstanceAs (Decidable (∀ i, i < s.size → _))
theorem dec_nm (s : ByteArray) (a : Nat) (h : a < s.size) : (nameC ((Utf8.decode s a).1 : Nat) → (Utf8.decode s a).2 = 1 ∧ nameC (bat s a).toNat) ∧ (¬ nameC ((Utf8.decode s a).1 : Nat) → ¬ nameC (bat s a).toNat) := by
  have hb : (bat s a) = s[a]'h := by
    unfold bat bs
    rw [List.getD_eq_getElem?_getD, Array.getElem?_toList, Array.getElem?_eq_getElem (by exact h)]
    rfl
  rw [hb]
  by_cases ha : (s[a]'h).toNat < 128
  · rw [decode_ascii s a h ha]; exact ⟨fun h => ⟨rfl, h⟩, fun h => h⟩
  ·
   have := decode_high s a h (by omega)
   have h2 : ¬ nameC ((s[a]'h).toNat : Int) := by unfold nameC greatC smallC digitC; omega
   exact ⟨fun h3 => by unfold nameC greatC smallC digitC at h3; omega, fun _ => h2⟩
theorem all_walk (s : ByteArray) (w0 : World) : Does Tryz.prog 61 #[.string s, .func (.func 62) #[] #[]] w0 (fun r w' => r = .bool (decide (allN s)) ∧ Nw w0 w') := by
  refine fn_of (n := 16) (args := [.string s, .func (.func 62) #[] #[]]) Tryz.func61 rfl rfl rfl (W_seq (W_region (L_r (r_ab rfl) (L_nil (W_seq (W_seq (W_region (L_r (r_ms rfl) ?_))))))))
  refine L_ranges Tryz.underlying9 (.plain rfl) rfl rfl (fun w1 b8 hit8 eb1 hs1 c1 => (L_nil (W_block ?_)))
  refine W_loopF [1, 8] (fun mz_ f W => ∃ (a : Nat), True ∧ (a ≤ s.size ∧ Its W b8 s a ∧ (∀ i, i < a → nameC (bat s i).toNat) ∧ Nw w0 W) ∧ mz_ = s.size - a) ?_ ?_
  ·
   refine ⟨_, 0, trivial, ?_, rfl⟩
   exact ⟨by omega, Its.au, fun i hi => by omega, Ch.au⟩
  rintro m0 g0 w2 ⟨a, -, hR0, rfl⟩
  obtain ⟨ha, hit, hok, hnw⟩ := hR0
  have hz := hnw.size
  refine W_seq (W_region ?_)
  refine L_nexts (.plain rfl) rfl rfl Its.au (fun hall9 => ?_) (fun w3 hin9 hit9 hs3 c3 => ?_)
  ·
   refine L_r (r_ext1_0 rfl) (L_nil (W_seq ?_))
   refine W_false rfl ?_
   refine W_exit ?_
   repeat (first | refine blk_hit ?_ | refine blk_miss rfl ?_)
   refine W_seq (W_region (L_r (r_ab rfl) (L_nil (W_ret ?_))))
   refine ret1 (v := .bool _) rfl rfl ?_
   first
     | (refine ⟨bool_f (fun h => ?_), Ch.au⟩
        simp only [Bool.not_eq_true', decide_eq_false_iff_not] at h15
        exact (dec_nm s a hin9).2 h15 (h a hin9))
     | exact ⟨bool_t (fun i hi => hok i (by omega)), Ch.au⟩
  ·
   refine L_r (r_ext3_0 rfl) (L_nil (W_seq ?_))
   refine W_true rfl (W_skip (W_block (W_seq (W_region (L_r (r_ext3_2 rfl) (L_r (r_ai rfl) (L_nil (W_seq ?_))))))))
   refine W_region (L_r (r_mv) (L_r (r_mi rfl) ?_))
   refine L_call (.plain rfl) rfl rfl (r_call Tryz.func62 rfl rfl rfl (by rfl)) (nmc_walk _ _) ?_
   rintro v14 w4 ⟨rfl, rfl⟩
   refine L_r (r_not rfl) (L_nil ?_)
   refine W_bool rfl (fun h15 => ?_) (fun h15 => ?_)
   ·
    refine W_seq (W_region (L_r (r_ab rfl) (L_nil (W_ret ?_))))
    refine ret1 (v := .bool _) rfl rfl ?_
    first
      | (refine ⟨bool_f (fun h => ?_), Ch.au⟩
         simp only [Bool.not_eq_true', decide_eq_false_iff_not] at h15
         exact (dec_nm s a hin9).2 h15 (h a hin9))
      | exact ⟨bool_t (fun i hi => hok i (by omega)), Ch.au⟩
   ·
    refine W_skip ?_
    refine ⟨⟨fx2, fx2, trivial⟩, _, ?_, a + 1, trivial, ?_, rfl⟩
    · omega
    simp only [Bool.not_eq_false', decide_eq_true_eq] at h15
    have hd := (dec_nm s a hin9).1 h15
    rw [hd.1] at hit9
    refine ⟨by omega, Its.au, fun i hi => ?_, Ch.au⟩
    by_cases e : i < a
    · exact hok i e
    ·
     have : i = a := by omega
     rw [this]; exact hd.2
def nameP (s : ByteArray) : Prop := 0 < s.size ∧ s.size ≤ 32 ∧ ¬ digitC (bat s 0).toNat ∧ allN s
instance (s : ByteArray) : Decidable (nameP s) := inferInstanceAs (Decidable (_ ∧ _))
theorem empty_size {s : ByteArray} (h : ¬ s = { data := #[] }) : 0 < s.size := by
  rcases Nat.eq_zero_or_pos s.size with h0 | h0
  · exact absurd (by
      obtain ⟨d⟩ := s
      have : d.size = 0 := h0
      rw [Array.eq_empty_of_size_eq_zero this]) h
  · exact h0
theorem name_walk (s : ByteArray) (w0 : World) : Does Tryz.prog 25 #[.string s] w0 (fun r w' => r = .bool (decide (nameP s)) ∧ Nw w0 w') := by
  refine fn_of (n := 22) (args := [.string s]) Tryz.func25 rfl rfl rfl (W_seq (W_region (L_r (r_ab rfl) (L_nil (W_seq (W_seq (W_region (L_r (r_ms rfl) ?_))))))))
  refine L_r (r_eqls rfl rfl) (L_r (r_mb rfl) ?_)
  refine L_case (d := 5) rfl (fun h5 => ?_) (fun h5 => ?_)
  ·
   refine L_ps (L_ps (L_ps (L_r (r_pt rfl rfl) (L_r (r_mb rfl) (L_ps (L_ps (L_ps (L_ps ?_))))))))
   refine L_pu ?_
   refine L_pu ?_
   refine L_pu (L_ps (L_r (r_pt rfl rfl) (L_nil ?_)))
   refine W_true rfl (W_seq (W_region (L_r (r_ab rfl) (L_nil (W_ret ?_)))))
   refine ret1 (v := .bool _) rfl rfl ?_
   refine ⟨?_, Ch.au⟩
   first
     | (apply bool_f; unfold nameP digitC; rintro ⟨k1, k2, k3, _⟩; first | omega | (subst h5; exact absurd k1 (by decide)))
     | (apply bool_dec; unfold nameP digitC; exact ⟨fun h => ⟨hpos, by omega, by omega, h⟩, fun h => h.2.2.2⟩)
  ·
   have hpos := empty_size (by assumption)
   refine L_g (r_ms rfl) ?_
   refine L_g (r_lens Tryz.underlying9 rfl) ?_
   refine L_g (r_gtr rfl rfl) (L_r (r_pf rfl rfl) (L_r (r_mb rfl) ?_))
   refine L_case (d := 10) rfl (fun h10 => ?_) (fun h10 => ?_)
   ·
    refine L_ps (L_ps (L_ps (L_ps ?_)))
    refine L_pu ?_
    refine L_pu ?_
    refine L_pu (L_ps (L_r (r_pt rfl rfl) (L_nil ?_)))
    refine W_true rfl (W_seq (W_region (L_r (r_ab rfl) (L_nil (W_ret ?_)))))
    refine ret1 (v := .bool _) rfl rfl ?_
    refine ⟨?_, Ch.au⟩
    first
      | (apply bool_f; unfold nameP digitC; rintro ⟨k1, k2, k3, _⟩; first | omega | (subst h5; exact absurd k1 (by decide)))
      | (apply bool_dec; unfold nameP digitC; exact ⟨fun h => ⟨hpos, by omega, by omega, h⟩, fun h => h.2.2.2⟩)
   ·
    refine L_g (r_ms rfl) ?_
    refine L_g (r_indexs Tryz.underlying9 rfl rfl (by omega) (by omega) (by conv => lhs; (try simp only [Nat.mul_one, Nat.zero_add, Int.toNat_natCast, Int.toNat_zero, Int.reduceToNat, Nat.reduceMul, Nat.reduceAdd]))) ?_
    refine L_g (r_geq rfl rfl) ?_
    refine L_g (r_mb rfl) ?_
    refine L_case (d := 14) rfl (fun h14 => ?_) (fun h14 => ?_)
    ·
     refine L_g (r_ms rfl) ?_
     refine L_g (r_indexs Tryz.underlying9 rfl rfl (by omega) (by omega) (by conv => lhs; (try simp only [Nat.mul_one, Nat.zero_add, Int.toNat_natCast, Int.toNat_zero, Int.reduceToNat, Nat.reduceMul, Nat.reduceAdd]))) ?_
     refine L_g (r_leq rfl rfl) ?_
     refine L_g (r_pt rfl rfl) (L_r (r_pf rfl rfl) (L_nil ?_))
     refine W_if rfl (fun h19 => ?_) (fun h19 => ?_)
     ·
      refine W_seq (W_region (L_r (r_ab rfl) (L_nil (W_ret ?_))))
      refine ret1 (v := .bool _) rfl rfl ?_
      refine ⟨?_, Ch.au⟩
      first
        | (apply bool_f; unfold nameP digitC; rintro ⟨k1, k2, k3, _⟩; first | omega | (subst h5; exact absurd k1 (by decide)))
        | (apply bool_dec; unfold nameP digitC; exact ⟨fun h => ⟨hpos, by omega, by omega, h⟩, fun h => h.2.2.2⟩)
     ·
      refine W_skip (W_seq (W_region (L_r (r_ms rfl) ?_)))
      refine L_call (.plain rfl) rfl rfl (r_call Tryz.func61 rfl rfl rfl (by rfl)) (all_walk s _) ?_
      rintro v21 w1 ⟨rfl, c1⟩
      have hz1 := c1.size
      refine L_r (r_ab rfl) (L_nil (W_ret ?_))
      refine ret1 (v := .bool _) rfl rfl ?_
      refine ⟨?_, Ch.au⟩
      first
        | (apply bool_f; unfold nameP digitC; rintro ⟨k1, k2, k3, _⟩; first | omega | (subst h5; exact absurd k1 (by decide)))
        | (apply bool_dec; unfold nameP digitC; exact ⟨fun h => ⟨hpos, by omega, by omega, h⟩, fun h => h.2.2.2⟩)
    ·
     refine L_ps (L_ps (L_ps ?_))
     refine L_g (r_pf rfl rfl) (L_r (r_pf rfl rfl) (L_nil ?_))
     refine W_false rfl (W_skip (W_seq (W_region (L_r (r_ms rfl) ?_))))
     refine L_call (.plain rfl) rfl rfl (r_call Tryz.func61 rfl rfl rfl (by rfl)) (all_walk s _) ?_
     rintro v21 w2 ⟨rfl, c2⟩
     have hz2 := c2.size
     refine L_r (r_ab rfl) (L_nil (W_ret ?_))
     refine ret1 (v := .bool _) rfl rfl ?_
     refine ⟨?_, Ch.au⟩
     first
       | (apply bool_f; unfold nameP digitC; rintro ⟨k1, k2, k3, _⟩; first | omega | (subst h5; exact absurd k1 (by decide)))
       | (apply bool_dec; unfold nameP digitC; exact ⟨fun h => ⟨hpos, by omega, by omega, h⟩, fun h => h.2.2.2⟩)
def classP (s : ByteArray) : Prop := nameP s ∧ greatC (bat s 0).toNat
instance (s : ByteArray) : Decidable (classP s) := inferInstanceAs (Decidable (_ ∧ _))
theorem class_walk (s : ByteArray) (w0 : World) : Does Tryz.prog 26 #[.string s] w0 (fun r w' => r = .bool (decide (classP s)) ∧ Nw w0 w') := by
  refine fn_of (n := 11) (args := [.string s]) Tryz.func26 rfl rfl rfl (W_seq (W_region (L_r (r_ab rfl) (L_nil (W_seq (W_region (L_r (r_ms rfl) ?_)))))))
  refine L_call (.plain rfl) rfl rfl (r_call Tryz.func25 rfl rfl rfl (by rfl)) (name_walk s _) ?_
  rintro v4 w1 ⟨rfl, c1⟩
  have hz1 := c1.size
  refine L_r (r_mb rfl) ?_
  refine L_caseb (d := 5) rfl (fun h5 => ?_) (fun h5 => ?_)
  ·
   have hnm : nameP s := by simpa using (by assumption : decide (nameP s) = true)
   have hpos := hnm.1
   have hbt := (bat s 0).toNat_lt
   refine L_g (r_ms rfl) ?_
   refine L_g (r_indexs Tryz.underlying9 rfl rfl (by omega) (by omega) (by conv => lhs; (try simp only [Nat.mul_one, Nat.zero_add, Int.toNat_natCast, Int.toNat_zero, Int.reduceToNat, Nat.reduceMul, Nat.reduceAdd]))) ?_
   refine L_g (r_conv Tryz.underlying5 Tryz.underlying21 rfl (by first | exact wr_i32 (by omega) | rfl)) ?_
   refine L_call (.yes 2 true rfl rfl) rfl rfl (r_call Tryz.func63 rfl rfl rfl (by rfl)) (great_walk _ _) ?_
   rintro v9 w2 ⟨rfl, rfl⟩
   refine L_r (r_pt rfl rfl) (L_r (r_ab rfl) (L_nil (W_ret ?_)))
   refine ret1 (v := .bool _) rfl rfl ?_
   refine ⟨?_, Ch.au⟩
   first
     | exact bool_f (fun h => hnm h.1)
     | exact bool_dec ⟨fun h => ⟨hnm, h⟩, fun h => h.2⟩
  ·
   have hnm : ¬ nameP s := by simpa using (by assumption : decide (nameP s) = false)
   refine L_ps (L_ps (L_ps (L_ps (L_r (r_pf rfl rfl) (L_r (r_ab rfl) (L_nil (W_ret ?_)))))))
   refine ret1 (v := .bool _) rfl rfl ?_
   refine ⟨?_, Ch.au⟩
   first
     | exact bool_f (fun h => hnm h.1)
     | exact bool_dec ⟨fun h => ⟨hnm, h⟩, fun h => h.2⟩
end Go.Proofs.YtgmeojpekdekeaaGreatDoor

namespace Go.Proofs.YtgmeojpekdekeaaGreatDoor
open Go Go.RowKit
set_option linter.unusedVariables false
set_option maxRecDepth 100000
set_option linter.unusedSimpArgs false
theorem nm_step {i c : Nat} (h : ¬ (¬ ((97 ≤ c ∧ c ≤ 122) ∨ (65 ≤ c ∧ c ≤ 90)) ∧ (i = 0 ∨ c < 48 ∨ 57 < c))) : nameC (c : Int) ∧ (i = 0 → ¬ digitC (c : Int)) := by
  unfold nameC greatC smallC digitC
  omega
theorem nm_bad {i c : Nat} (h : ¬ ((97 ≤ c ∧ c ≤ 122) ∨ (65 ≤ c ∧ c ≤ 90)) ∧ (i = 0 ∨ c < 48 ∨ 57 < c)) (h1 : nameC (c : Int)) (h2 : i = 0 → ¬ digitC (c : Int)) : False := by
  unfold nameC greatC smallC digitC at h1
  unfold digitC at h2
  omega
theorem rname_walk (s : ByteArray) (w0 : World) (hs : s.size ≤ 1000000000000000) : Does Tryz.prog 65 #[.string s] w0 (fun r w' => r = .bool (decide (nameP s)) ∧ Nw w0 w') := by
  refine fn_of (n := 59) (args := [.string s]) Tryz.func65 rfl rfl rfl (W_seq (W_region (L_r (r_ab rfl) (L_nil (W_seq (W_seq (W_region (L_r (r_ai rfl) ?_))))))))
  refine L_nil (W_block ?_)
  refine W_loopF [0] (fun mz_ f W => ∃ (i : Nat), f 3 = .int .i64 i ∧ (i ≤ s.size ∧ (∀ j, j < i → nameC (bat s j).toNat) ∧ (0 < i → ¬ digitC (bat s 0).toNat) ∧ Nw w0 W) ∧ mz_ = s.size - i) ?_ ?_
  ·
   refine ⟨_, 0, rfl, ?_, rfl⟩
   exact ⟨by omega, fun j hj => absurd hj (by omega), fun h => absurd h (by omega), Ch.au⟩
  rintro m0 g0 w1 ⟨i, hf3, hR0, rfl⟩
  refine W_as 3 hf3 rfl ?_
  clear hf3
  obtain ⟨hi, hall, h0, hnw⟩ := hR0
  have hz := hnw.size
  refine W_seq (W_seq (W_region (L_r (r_mi rfl) (L_r (r_ms rfl) ?_))))
  refine L_r (r_lens Tryz.underlying9 rfl) (L_r (r_lss rfl rfl) (L_nil ?_))
  refine W_if rfl (fun h8 => ?_) (fun h8 => ?_)
  ·
   refine W_skip (W_seq (W_block ?_))
   refine W_cutF [0, 3] (fun f W => f 4 = .bool (decide ((97 ≤ (bat s i).toNat ∧ (bat s i).toNat ≤ 122) ∨ (65 ≤ (bat s i).toNat ∧ (bat s i).toNat ≤ 90))) ∧ (W = w1)) ?_ ?_
   ·
    refine W_region (L_r (r_ms rfl) (L_r (r_mi rfl) ?_))
    refine L_r (r_indexs Tryz.underlying9 rfl rfl (by omega) (by omega) (by conv => lhs; (try simp only [Nat.mul_one, Nat.zero_add, Int.toNat_natCast, Int.toNat_zero, Int.reduceToNat, Nat.reduceMul, Nat.reduceAdd]))) (L_r (r_geq rfl rfl) (L_r (r_mb rfl) ?_))
    refine L_case (d := 15) rfl (fun h15 => ?_) (fun h15 => ?_)
    ·
     refine L_g (r_ms rfl) ?_
     refine L_g (r_mi rfl) ?_
     refine L_g (r_indexs Tryz.underlying9 rfl rfl (by omega) (by omega) (by conv => lhs; (try simp only [Nat.mul_one, Nat.zero_add, Int.toNat_natCast, Int.toNat_zero, Int.reduceToNat, Nat.reduceMul, Nat.reduceAdd]))) ?_
     refine L_g (r_leq rfl rfl) (L_r (r_pt rfl rfl) (L_r (r_mb rfl) ?_))
     refine L_case (d := 21) rfl (fun h21 => ?_) (fun h21 => ?_)
     ·
      refine L_ps (L_ps (L_ps (L_ps (L_ps ?_))))
      refine L_pu ?_
      refine L_pu ?_
      refine L_pu ?_
      refine L_pu (L_ps (L_r (r_pt rfl rfl) (L_r (r_ab rfl) (L_nil ?_))))
      refine ⟨⟨fx2, fx2, trivial⟩, (dec_t (by omega)), ?_⟩
      rfl
     ·
      refine L_g (r_ms rfl) ?_
      refine L_g (r_mi rfl) ?_
      refine L_g (r_indexs Tryz.underlying9 rfl rfl (by omega) (by omega) (by conv => lhs; (try simp only [Nat.mul_one, Nat.zero_add, Int.toNat_natCast, Int.toNat_zero, Int.reduceToNat, Nat.reduceMul, Nat.reduceAdd]))) ?_
      refine L_g (r_geq rfl rfl) ?_
      refine L_g (r_mb rfl) ?_
      refine L_case (d := 26) rfl (fun h26 => ?_) (fun h26 => ?_)
      ·
       refine L_g (r_ms rfl) ?_
       refine L_g (r_mi rfl) ?_
       refine L_g (r_indexs Tryz.underlying9 rfl rfl (by omega) (by omega) (by conv => lhs; (try simp only [Nat.mul_one, Nat.zero_add, Int.toNat_natCast, Int.toNat_zero, Int.reduceToNat, Nat.reduceMul, Nat.reduceAdd]))) ?_
       refine L_g (r_leq rfl rfl) ?_
       refine L_g (r_pt rfl rfl) (L_r (r_pf rfl rfl) (L_r (r_ab rfl) (L_nil ?_)))
       refine ⟨⟨fx2, fx2, trivial⟩, (dec_i (by omega)), ?_⟩
       rfl
      ·
       refine L_ps (L_ps (L_ps (L_ps ?_)))
       refine L_g (r_pf rfl rfl) (L_r (r_pf rfl rfl) (L_r (r_ab rfl) (L_nil ?_)))
       refine ⟨⟨fx2, fx2, trivial⟩, (dec_f (by omega)), ?_⟩
       rfl
    ·
     refine L_ps (L_ps (L_ps (L_ps (L_r (r_pf rfl rfl) (L_r (r_mb rfl) ?_)))))
     refine L_g (r_ms rfl) ?_
     refine L_g (r_mi rfl) ?_
     refine L_g (r_indexs Tryz.underlying9 rfl rfl (by omega) (by omega) (by conv => lhs; (try simp only [Nat.mul_one, Nat.zero_add, Int.toNat_natCast, Int.toNat_zero, Int.reduceToNat, Nat.reduceMul, Nat.reduceAdd]))) ?_
     refine L_g (r_geq rfl rfl) ?_
     refine L_g (r_mb rfl) ?_
     refine L_case (d := 26) rfl (fun h26 => ?_) (fun h26 => ?_)
     ·
      refine L_g (r_ms rfl) ?_
      refine L_g (r_mi rfl) ?_
      refine L_g (r_indexs Tryz.underlying9 rfl rfl (by omega) (by omega) (by conv => lhs; (try simp only [Nat.mul_one, Nat.zero_add, Int.toNat_natCast, Int.toNat_zero, Int.reduceToNat, Nat.reduceMul, Nat.reduceAdd]))) ?_
      refine L_g (r_leq rfl rfl) ?_
      refine L_g (r_pt rfl rfl) (L_r (r_pf rfl rfl) (L_r (r_ab rfl) (L_nil ?_)))
      refine ⟨⟨fx2, fx2, trivial⟩, (dec_i (by omega)), ?_⟩
      rfl
     ·
      refine L_ps (L_ps (L_ps (L_ps ?_)))
      refine L_g (r_pf rfl rfl) (L_r (r_pf rfl rfl) (L_r (r_ab rfl) (L_nil ?_)))
      refine ⟨⟨fx2, fx2, trivial⟩, (dec_f (by omega)), ?_⟩
      rfl
   rintro gcr4 w2 ⟨hf4, hCr4⟩
   refine W_as 4 hf4 rfl ?_
   clear hf4
   subst hCr4
   refine W_cutF [0, 3] (fun f W => f 50 = .bool (decide (¬ ((97 ≤ (bat s i).toNat ∧ (bat s i).toNat ≤ 122) ∨ (65 ≤ (bat s i).toNat ∧ (bat s i).toNat ≤ 90)) ∧ (i = 0 ∨ (bat s i).toNat < 48 ∨ 57 < (bat s i).toNat))) ∧ (W = w2)) ?_ ?_
   ·
    refine W_region (L_r (r_mb rfl) (L_r (r_notp rfl) (L_r (r_mb rfl) ?_)))
    refine L_case (d := 35) rfl (fun h35 => ?_) (fun h35 => ?_)
    ·
     refine L_g (r_mi rfl) ?_
     refine L_g (r_eql rfl rfl) ?_
     refine L_g (r_mb rfl) ?_
     refine L_case (d := 38) rfl (fun h38 => ?_) (fun h38 => ?_)
     ·
      refine L_ps (L_ps (L_ps (L_ps ?_)))
      refine L_g (r_pt rfl rfl) ?_
      refine L_g (r_mb rfl) (L_ps (L_ps (L_ps (L_ps ?_))))
      refine L_g (r_pt rfl rfl) (L_r (r_pt rfl rfl) (L_nil ?_))
      refine ⟨⟨fx2, fx2, trivial⟩, (dec_t (by omega)), ?_⟩
      rfl
     ·
      refine L_g (r_ms rfl) ?_
      refine L_g (r_mi rfl) ?_
      refine L_g (r_indexs Tryz.underlying9 rfl rfl (by omega) (by omega) (by conv => lhs; (try simp only [Nat.mul_one, Nat.zero_add, Int.toNat_natCast, Int.toNat_zero, Int.reduceToNat, Nat.reduceMul, Nat.reduceAdd]))) ?_
      refine L_g (r_lss rfl rfl) ?_
      refine L_g (r_pf rfl rfl) ?_
      refine L_g (r_mb rfl) ?_
      refine L_case (d := 44) rfl (fun h44 => ?_) (fun h44 => ?_)
      ·
       refine L_ps (L_ps (L_ps (L_ps ?_)))
       refine L_g (r_pt rfl rfl) (L_r (r_pt rfl rfl) (L_nil ?_))
       refine ⟨⟨fx2, fx2, trivial⟩, (dec_t (by omega)), ?_⟩
       rfl
      ·
       refine L_g (r_ms rfl) ?_
       refine L_g (r_mi rfl) ?_
       refine L_g (r_indexs Tryz.underlying9 rfl rfl (by omega) (by omega) (by conv => lhs; (try simp only [Nat.mul_one, Nat.zero_add, Int.toNat_natCast, Int.toNat_zero, Int.reduceToNat, Nat.reduceMul, Nat.reduceAdd]))) ?_
       refine L_g (r_gtr rfl rfl) ?_
       refine L_g (r_pf rfl rfl) (L_r (r_pt rfl rfl) (L_nil ?_))
       refine ⟨⟨fx2, fx2, trivial⟩, (dec_i (by omega)), ?_⟩
       rfl
    ·
     refine L_ps (L_ps (L_ps ?_))
     refine L_pu ?_
     refine L_pu ?_
     refine L_pu ?_
     refine L_pu (L_ps (L_ps ?_))
     refine L_pu ?_
     refine L_pu ?_
     refine L_pu ?_
     refine L_pu (L_ps (L_r (r_pf rfl rfl) (L_nil ?_)))
     refine ⟨⟨fx2, fx2, trivial⟩, (dec_f (by omega)), ?_⟩
     rfl
   rintro gcr5 w3 ⟨hf50, hCr5⟩
   refine W_as 50 hf50 rfl ?_
   clear hf50
   subst hCr5
   refine W_if rfl (fun h50 => ?_) (fun h50 => ?_)
   ·
    refine W_seq (W_region (L_r (r_ab rfl) (L_nil (W_ret ?_))))
    refine ret1 (v := .bool _) rfl rfl ?_
    refine ⟨?_, Ch.au⟩
    first
    | exact congrArg Value.bool (decide_eq_false (fun hp => nm_bad h50 (hp.2.2.2 i (by omega)) (fun h => by subst h; exact hp.2.2.1))).symm
    | exact congrArg Value.bool (decide_eq_decide.2 ⟨fun h => ⟨by omega, by omega, h0 (by omega), fun j hj => hall j (by omega)⟩, fun h => by have := h.2.1; omega⟩)
    | exact congrArg Value.bool (decide_eq_false (fun hp => by have := hp.1; omega)).symm
   ·
    refine W_skip (W_region (L_r (r_mi rfl) ?_))
    refine L_r (r_add rfl rfl (by first | exact wr_i64 (by omega) | rfl)) (L_r (r_ai rfl) (L_nil ?_))
    refine ⟨⟨fx2, trivial⟩, _, ?_, i + 1, rfl, ?_, rfl⟩
    · omega
    have hst := nm_step h50
    refine ⟨by omega, fun j hj => ?_, fun _ => ?_, Ch.au⟩
    ·
     rcases Nat.lt_or_ge j i with h | h
     · exact hall j h
     ·
      have e : j = i := by omega
      subst e; exact hst.1
    ·
     rcases Nat.eq_zero_or_pos i with h | h
     · subst h; exact hst.2 rfl
     · exact h0 h
  ·
   refine W_exit ?_
   repeat (first | refine blk_hit ?_ | refine blk_miss rfl ?_)
   refine W_seq (W_region (L_r (r_ms rfl) ?_))
   refine L_r (r_lens Tryz.underlying9 rfl) (L_r (r_geq rfl rfl) (L_r (r_mb rfl) ?_))
   refine L_case (d := 54) rfl (fun h54 => ?_) (fun h54 => ?_)
   ·
    refine L_g (r_ms rfl) ?_
    refine L_g (r_lens Tryz.underlying9 rfl) ?_
    refine L_g (r_leq rfl rfl) (L_r (r_pt rfl rfl) (L_r (r_ab rfl) (L_nil (W_ret ?_))))
    refine ret1 (v := .bool _) rfl rfl ?_
    refine ⟨?_, Ch.au⟩
    first
    | exact congrArg Value.bool (decide_eq_false (fun hp => nm_bad h50 (hp.2.2.2 i (by omega)) (fun h => by subst h; exact hp.2.2.1))).symm
    | exact congrArg Value.bool (decide_eq_decide.2 ⟨fun h => ⟨by omega, by omega, h0 (by omega), fun j hj => hall j (by omega)⟩, fun h => by have := h.2.1; omega⟩)
    | exact congrArg Value.bool (decide_eq_false (fun hp => by have := hp.1; omega)).symm
   ·
    refine L_ps (L_ps (L_ps (L_r (r_pf rfl rfl) (L_r (r_ab rfl) (L_nil (W_ret ?_))))))
    refine ret1 (v := .bool _) rfl rfl ?_
    refine ⟨?_, Ch.au⟩
    first
    | exact congrArg Value.bool (decide_eq_false (fun hp => nm_bad h50 (hp.2.2.2 i (by omega)) (fun h => by subst h; exact hp.2.2.1))).symm
    | exact congrArg Value.bool (decide_eq_decide.2 ⟨fun h => ⟨by omega, by omega, h0 (by omega), fun j hj => hall j (by omega)⟩, fun h => by have := h.2.1; omega⟩)
    | exact congrArg Value.bool (decide_eq_false (fun hp => by have := hp.1; omega)).symm
theorem mem_iff {s : ByteArray} (h : nameP s) : (97 ≤ ((bat s 0).toNat : Int)) ↔ (nameP s ∧ ¬ classP s) := by
  obtain ⟨h1, h2, h3, h4⟩ := id h
  have h5 := h4 0 h1
  unfold nameC greatC smallC digitC at h5
  unfold digitC at h3
  constructor
  ·
   intro h6
   refine ⟨h, fun hc => ?_⟩
   have h7 := hc.2
   unfold greatC at h7
   omega
  ·
   intro h6
   have h7 : ¬ greatC (bat s 0).toNat := fun hg => h6.2 ⟨h, hg⟩
   unfold greatC at h7
   omega
theorem rmember_walk (s : ByteArray) (w0 : World) (hs : s.size ≤ 1000000000000000) : Does Tryz.prog 32 #[.string s] w0 (fun r w' => r = .bool (decide (nameP s ∧ ¬ classP s)) ∧ Nw w0 w') := by
  refine fn_of (n := 10) (args := [.string s]) Tryz.func32 rfl rfl rfl (W_seq (W_region (L_r (r_ab rfl) (L_nil (W_seq (W_region (L_r (r_ms rfl) ?_)))))))
  refine L_call (.plain rfl) rfl rfl (r_call Tryz.func65 rfl rfl rfl (by rfl)) (rname_walk s _ hs) ?_
  rintro v4 w1 ⟨rfl, c1⟩
  have hz1 := c1.size
  refine L_r (r_mb rfl) ?_
  refine L_caseb (d := 5) rfl (fun h5 => ?_) (fun h5 => ?_)
  ·
   have hnp := of_decide_eq_true h5
   have hsp := hnp.1
   refine L_g (r_ms rfl) ?_
   refine L_g (r_indexs Tryz.underlying9 rfl rfl (by omega) (by omega) (by conv => lhs; (try simp only [Nat.mul_one, Nat.zero_add, Int.toNat_natCast, Int.toNat_zero, Int.reduceToNat, Nat.reduceMul, Nat.reduceAdd]))) ?_
   refine L_g (r_geq rfl rfl) (L_r (r_pt rfl rfl) (L_r (r_ab rfl) (L_nil (W_ret ?_))))
   refine ret1 (v := .bool _) rfl rfl ?_
   refine ⟨?_, Ch.au⟩
   first
   | exact congrArg Value.bool (decide_eq_decide.2 (mem_iff hnp))
   | exact congrArg Value.bool (decide_eq_false (fun hp => hnp hp.1)).symm
  ·
   have hnp := of_decide_eq_false h5
   refine L_ps (L_ps (L_ps (L_r (r_pf rfl rfl) (L_r (r_ab rfl) (L_nil (W_ret ?_))))))
   refine ret1 (v := .bool _) rfl rfl ?_
   refine ⟨?_, Ch.au⟩
   first
   | exact congrArg Value.bool (decide_eq_decide.2 (mem_iff hnp))
   | exact congrArg Value.bool (decide_eq_false (fun hp => hnp hp.1)).symm
end Go.Proofs.YtgmeojpekdekeaaGreatDoor

namespace Go.Proofs
open Go.Shelf
def Tryz.laysFormat_ren : Go.Shelf.Ren := ⟨fun | 173 => 79 | 246 => 91 | 283 => 92 | 284 => 93 | 285 => 94 | 286 => 95 | 129 => 113 | 317 => 112 | 318 => 114 | 319 => 115 | 320 => 116 | 337 => 126 | 338 => 127 | n => n, fun | 2 => 2 | 3 => 3 | 9 => 9 | 4 => 4 | 171 => 104 | 0 => 0 | 53 => 26 | 37 => 94 | 5 => 5 | 173 => 107 | 212 => 119 | 51 => 120 | 20 => 20 | 213 => 121 | 46 => 98 | 232 => 138 | 233 => 139 | n => n, fun | 17 => 2 | 18 => 5 | 19 => 6 | n => n⟩
theorem Tryz.laysFormat : Go.Proofs.LaysM.n173 Tryz.prog Tryz.laysFormat_ren := {
  mixed := by kernel_rfl
  f129 := Tryz.func113.trans (congrArg some (by kernel_rfl))
  f173 := Tryz.func79.trans (congrArg some (by kernel_rfl))
  f246 := Tryz.func91.trans (congrArg some (by kernel_rfl))
  f283 := Tryz.func92.trans (congrArg some (by kernel_rfl))
  f284 := Tryz.func93.trans (congrArg some (by kernel_rfl))
  f285 := Tryz.func94.trans (congrArg some (by kernel_rfl))
  f286 := Tryz.func95.trans (congrArg some (by kernel_rfl))
  f317 := Tryz.func112.trans (congrArg some (by kernel_rfl))
  f318 := Tryz.func114.trans (congrArg some (by kernel_rfl))
  f319 := Tryz.func115.trans (congrArg some (by kernel_rfl))
  f320 := Tryz.func116.trans (congrArg some (by kernel_rfl))
  f337 := Tryz.func126.trans (congrArg some (by kernel_rfl))
  f338 := Tryz.func127.trans (congrArg some (by kernel_rfl))
  t0 := Tryz.underlying0
  a0 := Tryz.isAgg0
  z0 := Tryz.sizeOf0
  v0 := Tryz.zeroValue0
  t2 := Tryz.underlying2
  a2 := Tryz.isAgg2
  z2 := Tryz.sizeOf2
  v2 := Tryz.zeroValue2
  t3 := Tryz.underlying3
  a3 := Tryz.isAgg3
  z3 := Tryz.sizeOf3
  v3 := Tryz.zeroValue3
  t4 := Tryz.underlying4
  a4 := Tryz.isAgg4
  z4 := Tryz.sizeOf4
  v4 := Tryz.zeroValue4
  t5 := Tryz.underlying5
  a5 := Tryz.isAgg5
  z5 := Tryz.sizeOf5
  v5 := Tryz.zeroValue5
  t9 := Tryz.underlying9
  a9 := Tryz.isAgg9
  z9 := Tryz.sizeOf9
  v9 := Tryz.zeroValue9
  t20 := Tryz.underlying20
  a20 := Tryz.isAgg20
  z20 := Tryz.sizeOf20
  v20 := Tryz.zeroValue20
  t37 := Tryz.underlying94
  a37 := Tryz.isAgg94
  z37 := Tryz.sizeOf94
  v37 := Tryz.zeroValue94
  t46 := Tryz.underlying98
  a46 := Tryz.isAgg98
  z46 := Tryz.sizeOf98
  v46 := Tryz.zeroValue98
  t51 := Tryz.underlying120
  a51 := Tryz.isAgg120
  z51 := Tryz.sizeOf120
  v51 := Tryz.zeroValue120
  t53 := Tryz.underlying26
  a53 := Tryz.isAgg26
  z53 := Tryz.sizeOf26
  v53 := Tryz.zeroValue26
  t171 := Tryz.underlying104
  a171 := Tryz.isAgg104
  z171 := Tryz.sizeOf104
  v171 := Tryz.zeroValue104
  t173 := Tryz.underlying107
  a173 := Tryz.isAgg107
  z173 := Tryz.sizeOf107
  v173 := Tryz.zeroValue107
  t212 := Tryz.underlying119
  a212 := Tryz.isAgg119
  z212 := Tryz.sizeOf119
  v212 := Tryz.zeroValue119
  t213 := Tryz.underlying121
  a213 := Tryz.isAgg121
  z213 := Tryz.sizeOf121
  t232 := Tryz.underlying138
  a232 := Tryz.isAgg138
  z232 := Tryz.sizeOf138
  v232 := Tryz.zeroValue138
  t233 := Tryz.underlying139
  a233 := Tryz.isAgg139
  z233 := Tryz.sizeOf139
  v233 := Tryz.zeroValue139
  g17 := by kernel_rfl
  g18 := by kernel_rfl
  g19 := by kernel_rfl
  i0 := by kernel_rfl
  i2 := by kernel_rfl
  i3 := by kernel_rfl
  i4 := by kernel_rfl
  i5 := by kernel_rfl
  i9 := by kernel_rfl
  i20 := by kernel_rfl
  i37 := by kernel_rfl
  i46 := by kernel_rfl
  i51 := by kernel_rfl
  i53 := by kernel_rfl
  i171 := by kernel_rfl
  i173 := by kernel_rfl
  i212 := by kernel_rfl
  i232 := by kernel_rfl
  i233 := by kernel_rfl
  m17 := by kernel_rfl
  m18 := by kernel_rfl
  m19 := by kernel_rfl }
def Tryz.laysItoaI_ren : Go.Shelf.Ren := ⟨fun | 243 => 77 | 246 => 91 | 283 => 92 | 284 => 93 | 285 => 94 | 286 => 95 | 129 => 113 | 317 => 112 | 318 => 114 | 319 => 115 | 320 => 116 | 337 => 126 | 338 => 127 | n => n, fun | 3 => 3 | 9 => 9 | 2 => 2 | 4 => 4 | 171 => 104 | 0 => 0 | 53 => 26 | 37 => 94 | 5 => 5 | 173 => 107 | 212 => 119 | 51 => 120 | 20 => 20 | 213 => 121 | 46 => 98 | 232 => 138 | 233 => 139 | n => n, fun | 17 => 2 | 18 => 5 | 19 => 6 | n => n⟩
theorem Tryz.laysItoaI : Go.Proofs.LaysM.n243 Tryz.prog Tryz.laysItoaI_ren := {
  mixed := by kernel_rfl
  f129 := Tryz.func113.trans (congrArg some (by kernel_rfl))
  f243 := Tryz.func77.trans (congrArg some (by kernel_rfl))
  f246 := Tryz.func91.trans (congrArg some (by kernel_rfl))
  f283 := Tryz.func92.trans (congrArg some (by kernel_rfl))
  f284 := Tryz.func93.trans (congrArg some (by kernel_rfl))
  f285 := Tryz.func94.trans (congrArg some (by kernel_rfl))
  f286 := Tryz.func95.trans (congrArg some (by kernel_rfl))
  f317 := Tryz.func112.trans (congrArg some (by kernel_rfl))
  f318 := Tryz.func114.trans (congrArg some (by kernel_rfl))
  f319 := Tryz.func115.trans (congrArg some (by kernel_rfl))
  f320 := Tryz.func116.trans (congrArg some (by kernel_rfl))
  f337 := Tryz.func126.trans (congrArg some (by kernel_rfl))
  f338 := Tryz.func127.trans (congrArg some (by kernel_rfl))
  t0 := Tryz.underlying0
  a0 := Tryz.isAgg0
  z0 := Tryz.sizeOf0
  v0 := Tryz.zeroValue0
  t2 := Tryz.underlying2
  a2 := Tryz.isAgg2
  z2 := Tryz.sizeOf2
  v2 := Tryz.zeroValue2
  t3 := Tryz.underlying3
  a3 := Tryz.isAgg3
  z3 := Tryz.sizeOf3
  v3 := Tryz.zeroValue3
  t4 := Tryz.underlying4
  a4 := Tryz.isAgg4
  z4 := Tryz.sizeOf4
  v4 := Tryz.zeroValue4
  t5 := Tryz.underlying5
  a5 := Tryz.isAgg5
  z5 := Tryz.sizeOf5
  v5 := Tryz.zeroValue5
  t9 := Tryz.underlying9
  a9 := Tryz.isAgg9
  z9 := Tryz.sizeOf9
  v9 := Tryz.zeroValue9
  t20 := Tryz.underlying20
  a20 := Tryz.isAgg20
  z20 := Tryz.sizeOf20
  v20 := Tryz.zeroValue20
  t37 := Tryz.underlying94
  a37 := Tryz.isAgg94
  z37 := Tryz.sizeOf94
  v37 := Tryz.zeroValue94
  t46 := Tryz.underlying98
  a46 := Tryz.isAgg98
  z46 := Tryz.sizeOf98
  v46 := Tryz.zeroValue98
  t51 := Tryz.underlying120
  a51 := Tryz.isAgg120
  z51 := Tryz.sizeOf120
  v51 := Tryz.zeroValue120
  t53 := Tryz.underlying26
  a53 := Tryz.isAgg26
  z53 := Tryz.sizeOf26
  v53 := Tryz.zeroValue26
  t171 := Tryz.underlying104
  a171 := Tryz.isAgg104
  z171 := Tryz.sizeOf104
  v171 := Tryz.zeroValue104
  t173 := Tryz.underlying107
  a173 := Tryz.isAgg107
  z173 := Tryz.sizeOf107
  v173 := Tryz.zeroValue107
  t212 := Tryz.underlying119
  a212 := Tryz.isAgg119
  z212 := Tryz.sizeOf119
  v212 := Tryz.zeroValue119
  t213 := Tryz.underlying121
  a213 := Tryz.isAgg121
  z213 := Tryz.sizeOf121
  t232 := Tryz.underlying138
  a232 := Tryz.isAgg138
  z232 := Tryz.sizeOf138
  v232 := Tryz.zeroValue138
  t233 := Tryz.underlying139
  a233 := Tryz.isAgg139
  z233 := Tryz.sizeOf139
  v233 := Tryz.zeroValue139
  g17 := by kernel_rfl
  g18 := by kernel_rfl
  g19 := by kernel_rfl
  i0 := by kernel_rfl
  i2 := by kernel_rfl
  i3 := by kernel_rfl
  i4 := by kernel_rfl
  i5 := by kernel_rfl
  i9 := by kernel_rfl
  i20 := by kernel_rfl
  i37 := by kernel_rfl
  i46 := by kernel_rfl
  i51 := by kernel_rfl
  i53 := by kernel_rfl
  i171 := by kernel_rfl
  i173 := by kernel_rfl
  i212 := by kernel_rfl
  i232 := by kernel_rfl
  i233 := by kernel_rfl
  m17 := by kernel_rfl
  m18 := by kernel_rfl
  m19 := by kernel_rfl }
def Tryz.laysAtoi_ren : Go.Shelf.Ren := ⟨fun | 172 => 72 | 244 => 87 | 245 => 88 | 247 => 105 | 279 => 106 | 280 => 107 | 281 => 108 | 282 => 109 | 287 => 89 | 316 => 124 | 171 => 39 | 205 => 125 | 321 => 110 | 322 => 111 | 243 => 77 | 246 => 91 | 283 => 92 | 284 => 93 | 285 => 94 | 286 => 95 | 129 => 113 | 317 => 112 | 318 => 114 | 319 => 115 | 320 => 116 | 337 => 126 | 338 => 127 | n => n, fun | 9 => 9 | 3 => 3 | 75 => 84 | 76 => 85 | 4 => 4 | 5 => 5 | 167 => 113 | 37 => 94 | 0 => 0 | 85 => 102 | 2 => 2 | 168 => 114 | 53 => 26 | 175 => 88 | 46 => 98 | 210 => 132 | 127 => 109 | 145 => 137 | 143 => 135 | 21 => 21 | 171 => 104 | 173 => 107 | 212 => 119 | 51 => 120 | 20 => 20 | 213 => 121 | 232 => 138 | 233 => 139 | 80 => 82 | n => n, fun | 15 => 3 | 16 => 4 | 17 => 2 | 18 => 5 | 19 => 6 | n => n⟩
theorem Tryz.laysAtoi : Go.Proofs.LaysC.n172 Tryz.prog Tryz.laysAtoi_ren := {
  mixed := by kernel_rfl
  f129 := Tryz.func113.trans (congrArg some (by kernel_rfl))
  f171 := Tryz.func39.trans (congrArg some (by kernel_rfl))
  f172 := Tryz.func72.trans (congrArg some (by kernel_rfl))
  f205 := Tryz.func125.trans (congrArg some (by kernel_rfl))
  f243 := Tryz.func77.trans (congrArg some (by kernel_rfl))
  f244 := Tryz.func87.trans (congrArg some (by kernel_rfl))
  f245 := Tryz.func88.trans (congrArg some (by kernel_rfl))
  f246 := Tryz.func91.trans (congrArg some (by kernel_rfl))
  f247 := Tryz.func105.trans (congrArg some (by kernel_rfl))
  f279 := Tryz.func106.trans (congrArg some (by kernel_rfl))
  f280 := Tryz.func107.trans (congrArg some (by kernel_rfl))
  f281 := Tryz.func108.trans (congrArg some (by kernel_rfl))
  f282 := Tryz.func109.trans (congrArg some (by kernel_rfl))
  f283 := Tryz.func92.trans (congrArg some (by kernel_rfl))
  f284 := Tryz.func93.trans (congrArg some (by kernel_rfl))
  f285 := Tryz.func94.trans (congrArg some (by kernel_rfl))
  f286 := Tryz.func95.trans (congrArg some (by kernel_rfl))
  f287 := Tryz.func89.trans (congrArg some (by kernel_rfl))
  f316 := Tryz.func124.trans (congrArg some (by kernel_rfl))
  f317 := Tryz.func112.trans (congrArg some (by kernel_rfl))
  f318 := Tryz.func114.trans (congrArg some (by kernel_rfl))
  f319 := Tryz.func115.trans (congrArg some (by kernel_rfl))
  f320 := Tryz.func116.trans (congrArg some (by kernel_rfl))
  f321 := Tryz.func110.trans (congrArg some (by kernel_rfl))
  f322 := Tryz.func111.trans (congrArg some (by kernel_rfl))
  f337 := Tryz.func126.trans (congrArg some (by kernel_rfl))
  f338 := Tryz.func127.trans (congrArg some (by kernel_rfl))
  t0 := Tryz.underlying0
  a0 := Tryz.isAgg0
  z0 := Tryz.sizeOf0
  v0 := Tryz.zeroValue0
  t2 := Tryz.underlying2
  a2 := Tryz.isAgg2
  z2 := Tryz.sizeOf2
  v2 := Tryz.zeroValue2
  t3 := Tryz.underlying3
  a3 := Tryz.isAgg3
  z3 := Tryz.sizeOf3
  v3 := Tryz.zeroValue3
  t4 := Tryz.underlying4
  a4 := Tryz.isAgg4
  z4 := Tryz.sizeOf4
  v4 := Tryz.zeroValue4
  t5 := Tryz.underlying5
  a5 := Tryz.isAgg5
  z5 := Tryz.sizeOf5
  v5 := Tryz.zeroValue5
  t9 := Tryz.underlying9
  a9 := Tryz.isAgg9
  z9 := Tryz.sizeOf9
  v9 := Tryz.zeroValue9
  t20 := Tryz.underlying20
  a20 := Tryz.isAgg20
  z20 := Tryz.sizeOf20
  v20 := Tryz.zeroValue20
  t21 := Tryz.underlying21
  a21 := Tryz.isAgg21
  z21 := Tryz.sizeOf21
  v21 := Tryz.zeroValue21
  t37 := Tryz.underlying94
  a37 := Tryz.isAgg94
  z37 := Tryz.sizeOf94
  v37 := Tryz.zeroValue94
  t46 := Tryz.underlying98
  a46 := Tryz.isAgg98
  z46 := Tryz.sizeOf98
  v46 := Tryz.zeroValue98
  t51 := Tryz.underlying120
  a51 := Tryz.isAgg120
  z51 := Tryz.sizeOf120
  v51 := Tryz.zeroValue120
  t53 := Tryz.underlying26
  a53 := Tryz.isAgg26
  z53 := Tryz.sizeOf26
  v53 := Tryz.zeroValue26
  t75 := Tryz.underlying84
  a75 := Tryz.isAgg84
  z75 := Tryz.sizeOf84
  v75 := Tryz.zeroValue84
  t76 := Tryz.underlying85
  a76 := Tryz.isAgg85
  z76 := Tryz.sizeOf85
  v76 := Tryz.zeroValue85
  t85 := Tryz.underlying102
  a85 := Tryz.isAgg102
  z85 := Tryz.sizeOf102
  v85 := Tryz.zeroValue102
  t127 := Tryz.underlying109
  a127 := Tryz.isAgg109
  z127 := Tryz.sizeOf109
  v127 := Tryz.zeroValue109
  t143 := Tryz.underlying135
  a143 := Tryz.isAgg135
  z143 := Tryz.sizeOf135
  v143 := Tryz.zeroValue135
  t145 := Tryz.underlying137
  a145 := Tryz.isAgg137
  z145 := Tryz.sizeOf137
  v145 := Tryz.zeroValue137
  t167 := Tryz.underlying113
  a167 := Tryz.isAgg113
  z167 := Tryz.sizeOf113
  v167 := Tryz.zeroValue113
  t168 := Tryz.underlying114
  a168 := Tryz.isAgg114
  z168 := Tryz.sizeOf114
  v168 := Tryz.zeroValue114
  t171 := Tryz.underlying104
  a171 := Tryz.isAgg104
  z171 := Tryz.sizeOf104
  v171 := Tryz.zeroValue104
  t173 := Tryz.underlying107
  a173 := Tryz.isAgg107
  z173 := Tryz.sizeOf107
  v173 := Tryz.zeroValue107
  t175 := Tryz.underlying88
  a175 := Tryz.isAgg88
  z175 := Tryz.sizeOf88
  v175 := Tryz.zeroValue88
  t210 := Tryz.underlying132
  a210 := Tryz.isAgg132
  z210 := Tryz.sizeOf132
  v210 := Tryz.zeroValue132
  t212 := Tryz.underlying119
  a212 := Tryz.isAgg119
  z212 := Tryz.sizeOf119
  v212 := Tryz.zeroValue119
  t213 := Tryz.underlying121
  a213 := Tryz.isAgg121
  z213 := Tryz.sizeOf121
  t232 := Tryz.underlying138
  a232 := Tryz.isAgg138
  z232 := Tryz.sizeOf138
  v232 := Tryz.zeroValue138
  t233 := Tryz.underlying139
  a233 := Tryz.isAgg139
  z233 := Tryz.sizeOf139
  v233 := Tryz.zeroValue139
  g15 := by kernel_rfl
  g16 := by kernel_rfl
  g17 := by kernel_rfl
  g18 := by kernel_rfl
  g19 := by kernel_rfl
  t80 := Tryz.underlying82
  a80 := Tryz.isAgg82
  z80 := Tryz.sizeOf82
  v80 := Tryz.zeroValue82
  i0 := by kernel_rfl
  i2 := by kernel_rfl
  i3 := by kernel_rfl
  i4 := by kernel_rfl
  i5 := by kernel_rfl
  i9 := by kernel_rfl
  i20 := by kernel_rfl
  i21 := by kernel_rfl
  i37 := by kernel_rfl
  i46 := by kernel_rfl
  i51 := by kernel_rfl
  i53 := by kernel_rfl
  i75 := by kernel_rfl
  i76 := by kernel_rfl
  i80 := by kernel_rfl
  i85 := by kernel_rfl
  i127 := by kernel_rfl
  i143 := by kernel_rfl
  i145 := by kernel_rfl
  i167 := by kernel_rfl
  i168 := by kernel_rfl
  i171 := by kernel_rfl
  i173 := by kernel_rfl
  i175 := by kernel_rfl
  i210 := by kernel_rfl
  i212 := by kernel_rfl
  i232 := by kernel_rfl
  i233 := by kernel_rfl
  m15 := by kernel_rfl
  m16 := by kernel_rfl
  m17 := by kernel_rfl
  m18 := by kernel_rfl
  m19 := by kernel_rfl
  c0 := by kernel_rfl
  c2 := by kernel_rfl
  c3 := by kernel_rfl
  c4 := by kernel_rfl
  c5 := by kernel_rfl
  c9 := by kernel_rfl
  c20 := by kernel_rfl
  c21 := by kernel_rfl
  c37 := by kernel_rfl
  c46 := by kernel_rfl
  c51 := by kernel_rfl
  c53 := by kernel_rfl
  c75 := by kernel_rfl
  c76 := by kernel_rfl
  c80 := by kernel_rfl
  c85 := by kernel_rfl
  c127 := by kernel_rfl
  c143 := by kernel_rfl
  c145 := by kernel_rfl
  c167 := by kernel_rfl
  c168 := by kernel_rfl
  c171 := by kernel_rfl
  c173 := by kernel_rfl
  c175 := by kernel_rfl
  c210 := by kernel_rfl
  c212 := by kernel_rfl
  c213 := by kernel_rfl
  c232 := by kernel_rfl
  c233 := by kernel_rfl }
def Tryz.laysParse_ren : Go.Shelf.Ren := ⟨fun | 174 => 90 | 247 => 105 | 245 => 88 | 287 => 89 | 279 => 106 | 280 => 107 | 281 => 108 | 282 => 109 | 321 => 110 | 322 => 111 | 316 => 124 | 171 => 39 | 205 => 125 | 243 => 77 | 246 => 91 | 283 => 92 | 284 => 93 | 285 => 94 | 286 => 95 | 129 => 113 | 317 => 112 | 318 => 114 | 319 => 115 | 320 => 116 | 337 => 126 | 338 => 127 | n => n, fun | 9 => 9 | 3 => 3 | 2 => 2 | 75 => 84 | 85 => 102 | 4 => 4 | 167 => 113 | 5 => 5 | 53 => 26 | 175 => 88 | 46 => 98 | 168 => 114 | 37 => 94 | 0 => 0 | 210 => 132 | 21 => 21 | 127 => 109 | 145 => 137 | 143 => 135 | 171 => 104 | 173 => 107 | 212 => 119 | 51 => 120 | 20 => 20 | 213 => 121 | 232 => 138 | 233 => 139 | 80 => 82 | n => n, fun | 15 => 3 | 16 => 4 | 17 => 2 | 18 => 5 | 19 => 6 | n => n⟩
theorem Tryz.laysParse : Go.Proofs.LaysC.n174 Tryz.prog Tryz.laysParse_ren := {
  mixed := by kernel_rfl
  f129 := Tryz.func113.trans (congrArg some (by kernel_rfl))
  f171 := Tryz.func39.trans (congrArg some (by kernel_rfl))
  f174 := Tryz.func90.trans (congrArg some (by kernel_rfl))
  f205 := Tryz.func125.trans (congrArg some (by kernel_rfl))
  f243 := Tryz.func77.trans (congrArg some (by kernel_rfl))
  f245 := Tryz.func88.trans (congrArg some (by kernel_rfl))
  f246 := Tryz.func91.trans (congrArg some (by kernel_rfl))
  f247 := Tryz.func105.trans (congrArg some (by kernel_rfl))
  f279 := Tryz.func106.trans (congrArg some (by kernel_rfl))
  f280 := Tryz.func107.trans (congrArg some (by kernel_rfl))
  f281 := Tryz.func108.trans (congrArg some (by kernel_rfl))
  f282 := Tryz.func109.trans (congrArg some (by kernel_rfl))
  f283 := Tryz.func92.trans (congrArg some (by kernel_rfl))
  f284 := Tryz.func93.trans (congrArg some (by kernel_rfl))
  f285 := Tryz.func94.trans (congrArg some (by kernel_rfl))
  f286 := Tryz.func95.trans (congrArg some (by kernel_rfl))
  f287 := Tryz.func89.trans (congrArg some (by kernel_rfl))
  f316 := Tryz.func124.trans (congrArg some (by kernel_rfl))
  f317 := Tryz.func112.trans (congrArg some (by kernel_rfl))
  f318 := Tryz.func114.trans (congrArg some (by kernel_rfl))
  f319 := Tryz.func115.trans (congrArg some (by kernel_rfl))
  f320 := Tryz.func116.trans (congrArg some (by kernel_rfl))
  f321 := Tryz.func110.trans (congrArg some (by kernel_rfl))
  f322 := Tryz.func111.trans (congrArg some (by kernel_rfl))
  f337 := Tryz.func126.trans (congrArg some (by kernel_rfl))
  f338 := Tryz.func127.trans (congrArg some (by kernel_rfl))
  t0 := Tryz.underlying0
  a0 := Tryz.isAgg0
  z0 := Tryz.sizeOf0
  v0 := Tryz.zeroValue0
  t2 := Tryz.underlying2
  a2 := Tryz.isAgg2
  z2 := Tryz.sizeOf2
  v2 := Tryz.zeroValue2
  t3 := Tryz.underlying3
  a3 := Tryz.isAgg3
  z3 := Tryz.sizeOf3
  v3 := Tryz.zeroValue3
  t4 := Tryz.underlying4
  a4 := Tryz.isAgg4
  z4 := Tryz.sizeOf4
  v4 := Tryz.zeroValue4
  t5 := Tryz.underlying5
  a5 := Tryz.isAgg5
  z5 := Tryz.sizeOf5
  v5 := Tryz.zeroValue5
  t9 := Tryz.underlying9
  a9 := Tryz.isAgg9
  z9 := Tryz.sizeOf9
  v9 := Tryz.zeroValue9
  t20 := Tryz.underlying20
  a20 := Tryz.isAgg20
  z20 := Tryz.sizeOf20
  v20 := Tryz.zeroValue20
  t21 := Tryz.underlying21
  a21 := Tryz.isAgg21
  z21 := Tryz.sizeOf21
  v21 := Tryz.zeroValue21
  t37 := Tryz.underlying94
  a37 := Tryz.isAgg94
  z37 := Tryz.sizeOf94
  v37 := Tryz.zeroValue94
  t46 := Tryz.underlying98
  a46 := Tryz.isAgg98
  z46 := Tryz.sizeOf98
  v46 := Tryz.zeroValue98
  t51 := Tryz.underlying120
  a51 := Tryz.isAgg120
  z51 := Tryz.sizeOf120
  v51 := Tryz.zeroValue120
  t53 := Tryz.underlying26
  a53 := Tryz.isAgg26
  z53 := Tryz.sizeOf26
  v53 := Tryz.zeroValue26
  t75 := Tryz.underlying84
  a75 := Tryz.isAgg84
  z75 := Tryz.sizeOf84
  v75 := Tryz.zeroValue84
  t85 := Tryz.underlying102
  a85 := Tryz.isAgg102
  z85 := Tryz.sizeOf102
  v85 := Tryz.zeroValue102
  t127 := Tryz.underlying109
  a127 := Tryz.isAgg109
  z127 := Tryz.sizeOf109
  v127 := Tryz.zeroValue109
  t143 := Tryz.underlying135
  a143 := Tryz.isAgg135
  z143 := Tryz.sizeOf135
  v143 := Tryz.zeroValue135
  t145 := Tryz.underlying137
  a145 := Tryz.isAgg137
  z145 := Tryz.sizeOf137
  v145 := Tryz.zeroValue137
  t167 := Tryz.underlying113
  a167 := Tryz.isAgg113
  z167 := Tryz.sizeOf113
  v167 := Tryz.zeroValue113
  t168 := Tryz.underlying114
  a168 := Tryz.isAgg114
  z168 := Tryz.sizeOf114
  v168 := Tryz.zeroValue114
  t171 := Tryz.underlying104
  a171 := Tryz.isAgg104
  z171 := Tryz.sizeOf104
  v171 := Tryz.zeroValue104
  t173 := Tryz.underlying107
  a173 := Tryz.isAgg107
  z173 := Tryz.sizeOf107
  v173 := Tryz.zeroValue107
  t175 := Tryz.underlying88
  a175 := Tryz.isAgg88
  z175 := Tryz.sizeOf88
  v175 := Tryz.zeroValue88
  t210 := Tryz.underlying132
  a210 := Tryz.isAgg132
  z210 := Tryz.sizeOf132
  v210 := Tryz.zeroValue132
  t212 := Tryz.underlying119
  a212 := Tryz.isAgg119
  z212 := Tryz.sizeOf119
  v212 := Tryz.zeroValue119
  t213 := Tryz.underlying121
  a213 := Tryz.isAgg121
  z213 := Tryz.sizeOf121
  t232 := Tryz.underlying138
  a232 := Tryz.isAgg138
  z232 := Tryz.sizeOf138
  v232 := Tryz.zeroValue138
  t233 := Tryz.underlying139
  a233 := Tryz.isAgg139
  z233 := Tryz.sizeOf139
  v233 := Tryz.zeroValue139
  g15 := by kernel_rfl
  g16 := by kernel_rfl
  g17 := by kernel_rfl
  g18 := by kernel_rfl
  g19 := by kernel_rfl
  t80 := Tryz.underlying82
  a80 := Tryz.isAgg82
  z80 := Tryz.sizeOf82
  v80 := Tryz.zeroValue82
  i0 := by kernel_rfl
  i2 := by kernel_rfl
  i3 := by kernel_rfl
  i4 := by kernel_rfl
  i5 := by kernel_rfl
  i9 := by kernel_rfl
  i20 := by kernel_rfl
  i21 := by kernel_rfl
  i37 := by kernel_rfl
  i46 := by kernel_rfl
  i51 := by kernel_rfl
  i53 := by kernel_rfl
  i75 := by kernel_rfl
  i80 := by kernel_rfl
  i85 := by kernel_rfl
  i127 := by kernel_rfl
  i143 := by kernel_rfl
  i145 := by kernel_rfl
  i167 := by kernel_rfl
  i168 := by kernel_rfl
  i171 := by kernel_rfl
  i173 := by kernel_rfl
  i175 := by kernel_rfl
  i210 := by kernel_rfl
  i212 := by kernel_rfl
  i232 := by kernel_rfl
  i233 := by kernel_rfl
  m15 := by kernel_rfl
  m16 := by kernel_rfl
  m17 := by kernel_rfl
  m18 := by kernel_rfl
  m19 := by kernel_rfl
  c0 := by kernel_rfl
  c2 := by kernel_rfl
  c3 := by kernel_rfl
  c4 := by kernel_rfl
  c5 := by kernel_rfl
  c9 := by kernel_rfl
  c20 := by kernel_rfl
  c21 := by kernel_rfl
  c37 := by kernel_rfl
  c46 := by kernel_rfl
  c51 := by kernel_rfl
  c53 := by kernel_rfl
  c75 := by kernel_rfl
  c80 := by kernel_rfl
  c85 := by kernel_rfl
  c127 := by kernel_rfl
  c143 := by kernel_rfl
  c145 := by kernel_rfl
  c167 := by kernel_rfl
  c168 := by kernel_rfl
  c171 := by kernel_rfl
  c173 := by kernel_rfl
  c175 := by kernel_rfl
  c210 := by kernel_rfl
  c212 := by kernel_rfl
  c213 := by kernel_rfl
  c232 := by kernel_rfl
  c233 := by kernel_rfl }
def Tryz.laysPuint_ren : Go.Shelf.Ren := ⟨fun | 14 => 73 | 16 => 89 | 17 => 88 | 19 => 110 | 20 => 111 | 21 => 106 | 22 => 107 | 23 => 108 | 24 => 109 | 25 => 124 | 27 => 39 | 26 => 125 | 28 => 77 | 29 => 91 | 30 => 92 | 31 => 93 | 32 => 94 | 33 => 95 | 35 => 113 | 34 => 112 | 36 => 114 | 37 => 115 | 38 => 116 | 39 => 126 | 40 => 127 | n => n, fun | 9 => 9 | 3 => 3 | 22 => 26 | 24 => 84 | 25 => 88 | 4 => 4 | 34 => 113 | 5 => 5 | 36 => 98 | 37 => 94 | 0 => 0 | 39 => 114 | 21 => 21 | 44 => 132 | 47 => 109 | 50 => 137 | 48 => 135 | 2 => 2 | 52 => 104 | 55 => 107 | 59 => 119 | 60 => 120 | 20 => 20 | 61 => 121 | 65 => 138 | 66 => 139 | 67 => 82 | n => n, fun | 0 => 3 | 1 => 4 | 2 => 2 | 3 => 5 | 4 => 6 | n => n⟩
theorem Tryz.laysPuint : Go.Proofs.LaysPu.n14 Tryz.prog Tryz.laysPuint_ren := {
  mixed := by kernel_rfl
  f14 := Tryz.func73.trans (congrArg some (by kernel_rfl))
  f16 := Tryz.func89.trans (congrArg some (by kernel_rfl))
  f17 := Tryz.func88.trans (congrArg some (by kernel_rfl))
  f19 := Tryz.func110.trans (congrArg some (by kernel_rfl))
  f20 := Tryz.func111.trans (congrArg some (by kernel_rfl))
  f21 := Tryz.func106.trans (congrArg some (by kernel_rfl))
  f22 := Tryz.func107.trans (congrArg some (by kernel_rfl))
  f23 := Tryz.func108.trans (congrArg some (by kernel_rfl))
  f24 := Tryz.func109.trans (congrArg some (by kernel_rfl))
  f25 := Tryz.func124.trans (congrArg some (by kernel_rfl))
  f26 := Tryz.func125.trans (congrArg some (by kernel_rfl))
  f27 := Tryz.func39.trans (congrArg some (by kernel_rfl))
  f28 := Tryz.func77.trans (congrArg some (by kernel_rfl))
  f29 := Tryz.func91.trans (congrArg some (by kernel_rfl))
  f30 := Tryz.func92.trans (congrArg some (by kernel_rfl))
  f31 := Tryz.func93.trans (congrArg some (by kernel_rfl))
  f32 := Tryz.func94.trans (congrArg some (by kernel_rfl))
  f33 := Tryz.func95.trans (congrArg some (by kernel_rfl))
  f34 := Tryz.func112.trans (congrArg some (by kernel_rfl))
  f35 := Tryz.func113.trans (congrArg some (by kernel_rfl))
  f36 := Tryz.func114.trans (congrArg some (by kernel_rfl))
  f37 := Tryz.func115.trans (congrArg some (by kernel_rfl))
  f38 := Tryz.func116.trans (congrArg some (by kernel_rfl))
  f39 := Tryz.func126.trans (congrArg some (by kernel_rfl))
  f40 := Tryz.func127.trans (congrArg some (by kernel_rfl))
  t0 := Tryz.underlying0
  a0 := Tryz.isAgg0
  z0 := Tryz.sizeOf0
  v0 := Tryz.zeroValue0
  i0 := by kernel_rfl
  t2 := Tryz.underlying2
  a2 := Tryz.isAgg2
  z2 := Tryz.sizeOf2
  v2 := Tryz.zeroValue2
  i2 := by kernel_rfl
  t3 := Tryz.underlying3
  a3 := Tryz.isAgg3
  z3 := Tryz.sizeOf3
  v3 := Tryz.zeroValue3
  i3 := by kernel_rfl
  t4 := Tryz.underlying4
  a4 := Tryz.isAgg4
  z4 := Tryz.sizeOf4
  v4 := Tryz.zeroValue4
  i4 := by kernel_rfl
  t5 := Tryz.underlying5
  a5 := Tryz.isAgg5
  z5 := Tryz.sizeOf5
  v5 := Tryz.zeroValue5
  i5 := by kernel_rfl
  t9 := Tryz.underlying9
  a9 := Tryz.isAgg9
  z9 := Tryz.sizeOf9
  v9 := Tryz.zeroValue9
  i9 := by kernel_rfl
  t20 := Tryz.underlying20
  a20 := Tryz.isAgg20
  z20 := Tryz.sizeOf20
  v20 := Tryz.zeroValue20
  i20 := by kernel_rfl
  t21 := Tryz.underlying21
  a21 := Tryz.isAgg21
  z21 := Tryz.sizeOf21
  v21 := Tryz.zeroValue21
  i21 := by kernel_rfl
  t22 := Tryz.underlying26
  a22 := Tryz.isAgg26
  z22 := Tryz.sizeOf26
  v22 := Tryz.zeroValue26
  i22 := by kernel_rfl
  t24 := Tryz.underlying84
  a24 := Tryz.isAgg84
  z24 := Tryz.sizeOf84
  v24 := Tryz.zeroValue84
  i24 := by kernel_rfl
  t25 := Tryz.underlying88
  a25 := Tryz.isAgg88
  z25 := Tryz.sizeOf88
  v25 := Tryz.zeroValue88
  i25 := by kernel_rfl
  t34 := Tryz.underlying113
  a34 := Tryz.isAgg113
  z34 := Tryz.sizeOf113
  v34 := Tryz.zeroValue113
  i34 := by kernel_rfl
  c34 := by kernel_rfl
  t36 := Tryz.underlying98
  a36 := Tryz.isAgg98
  z36 := Tryz.sizeOf98
  v36 := Tryz.zeroValue98
  i36 := by kernel_rfl
  t37 := Tryz.underlying94
  a37 := Tryz.isAgg94
  z37 := Tryz.sizeOf94
  v37 := Tryz.zeroValue94
  i37 := by kernel_rfl
  t39 := Tryz.underlying114
  a39 := Tryz.isAgg114
  z39 := Tryz.sizeOf114
  v39 := Tryz.zeroValue114
  i39 := by kernel_rfl
  t44 := Tryz.underlying132
  a44 := Tryz.isAgg132
  z44 := Tryz.sizeOf132
  v44 := Tryz.zeroValue132
  i44 := by kernel_rfl
  t47 := Tryz.underlying109
  a47 := Tryz.isAgg109
  z47 := Tryz.sizeOf109
  v47 := Tryz.zeroValue109
  i47 := by kernel_rfl
  t48 := Tryz.underlying135
  a48 := Tryz.isAgg135
  z48 := Tryz.sizeOf135
  v48 := Tryz.zeroValue135
  i48 := by kernel_rfl
  t50 := Tryz.underlying137
  a50 := Tryz.isAgg137
  z50 := Tryz.sizeOf137
  v50 := Tryz.zeroValue137
  i50 := by kernel_rfl
  t52 := Tryz.underlying104
  a52 := Tryz.isAgg104
  z52 := Tryz.sizeOf104
  v52 := Tryz.zeroValue104
  i52 := by kernel_rfl
  t55 := Tryz.underlying107
  a55 := Tryz.isAgg107
  z55 := Tryz.sizeOf107
  v55 := Tryz.zeroValue107
  i55 := by kernel_rfl
  t59 := Tryz.underlying119
  a59 := Tryz.isAgg119
  z59 := Tryz.sizeOf119
  v59 := Tryz.zeroValue119
  i59 := by kernel_rfl
  t60 := Tryz.underlying120
  a60 := Tryz.isAgg120
  z60 := Tryz.sizeOf120
  v60 := Tryz.zeroValue120
  i60 := by kernel_rfl
  t61 := Tryz.underlying121
  a61 := Tryz.isAgg121
  z61 := Tryz.sizeOf121
  t65 := Tryz.underlying138
  a65 := Tryz.isAgg138
  z65 := Tryz.sizeOf138
  v65 := Tryz.zeroValue138
  i65 := by kernel_rfl
  t66 := Tryz.underlying139
  a66 := Tryz.isAgg139
  z66 := Tryz.sizeOf139
  v66 := Tryz.zeroValue139
  i66 := by kernel_rfl
  t67 := Tryz.underlying82
  a67 := Tryz.isAgg82
  z67 := Tryz.sizeOf82
  v67 := Tryz.zeroValue82
  i67 := by kernel_rfl
  g0 := by kernel_rfl
  m0 := by kernel_rfl
  g1 := by kernel_rfl
  m1 := by kernel_rfl
  g2 := by kernel_rfl
  m2 := by kernel_rfl
  g3 := by kernel_rfl
  m3 := by kernel_rfl
  g4 := by kernel_rfl
  m4 := by kernel_rfl }
def Tryz.laysSplit_ren : Go.Shelf.Ren := ⟨fun | 146 => 69 | 221 => 86 | 268 => 103 | 138 => 104 | 143 => 60 | 195 => 121 | 197 => 122 | 218 => 123 | 219 => 83 | 260 => 128 | 217 => 98 | 225 => 99 | 224 => 100 | 267 => 101 | 266 => 118 | 314 => 119 | n => n, fun | 9 => 9 | 31 => 78 | 3 => 3 | 4 => 4 | 0 => 0 | 105 => 129 | 21 => 21 | 5 => 5 | 46 => 98 | 119 => 140 | 139 => 143 | 138 => 142 | 146 => 125 | 51 => 120 | n => n, fun | 1 => 1 | 3 => 7 | 4 => 8 | n => n⟩
theorem Tryz.laysSplit : Go.Proofs.Lays.n146 Tryz.prog Tryz.laysSplit_ren := {
  mixed := by kernel_rfl
  f138 := Tryz.func104.trans (congrArg some (by kernel_rfl))
  f143 := Tryz.func60.trans (congrArg some (by kernel_rfl))
  f146 := Tryz.func69.trans (congrArg some (by kernel_rfl))
  f195 := Tryz.func121.trans (congrArg some (by kernel_rfl))
  f197 := Tryz.func122.trans (congrArg some (by kernel_rfl))
  f217 := Tryz.func98.trans (congrArg some (by kernel_rfl))
  f218 := Tryz.func123.trans (congrArg some (by kernel_rfl))
  f219 := Tryz.func83.trans (congrArg some (by kernel_rfl))
  f221 := Tryz.func86.trans (congrArg some (by kernel_rfl))
  f224 := Tryz.func100.trans (congrArg some (by kernel_rfl))
  f225 := Tryz.func99.trans (congrArg some (by kernel_rfl))
  f260 := Tryz.func128.trans (congrArg some (by kernel_rfl))
  f266 := Tryz.func118.trans (congrArg some (by kernel_rfl))
  f267 := Tryz.func101.trans (congrArg some (by kernel_rfl))
  f268 := Tryz.func103.trans (congrArg some (by kernel_rfl))
  f314 := Tryz.func119.trans (congrArg some (by kernel_rfl))
  t0 := Tryz.underlying0
  a0 := Tryz.isAgg0
  z0 := Tryz.sizeOf0
  v0 := Tryz.zeroValue0
  t3 := Tryz.underlying3
  a3 := Tryz.isAgg3
  z3 := Tryz.sizeOf3
  v3 := Tryz.zeroValue3
  t4 := Tryz.underlying4
  a4 := Tryz.isAgg4
  z4 := Tryz.sizeOf4
  v4 := Tryz.zeroValue4
  t5 := Tryz.underlying5
  a5 := Tryz.isAgg5
  z5 := Tryz.sizeOf5
  v5 := Tryz.zeroValue5
  t9 := Tryz.underlying9
  a9 := Tryz.isAgg9
  z9 := Tryz.sizeOf9
  v9 := Tryz.zeroValue9
  t21 := Tryz.underlying21
  a21 := Tryz.isAgg21
  z21 := Tryz.sizeOf21
  v21 := Tryz.zeroValue21
  t31 := Tryz.underlying78
  a31 := Tryz.isAgg78
  z31 := Tryz.sizeOf78
  v31 := Tryz.zeroValue78
  t46 := Tryz.underlying98
  a46 := Tryz.isAgg98
  z46 := Tryz.sizeOf98
  v46 := Tryz.zeroValue98
  t51 := Tryz.underlying120
  a51 := Tryz.isAgg120
  z51 := Tryz.sizeOf120
  v51 := Tryz.zeroValue120
  t105 := Tryz.underlying129
  a105 := Tryz.isAgg129
  z105 := Tryz.sizeOf129
  v105 := Tryz.zeroValue129
  t119 := Tryz.underlying140
  a119 := Tryz.isAgg140
  z119 := Tryz.sizeOf140
  t138 := Tryz.underlying142
  a138 := Tryz.isAgg142
  z138 := Tryz.sizeOf142
  v138 := Tryz.zeroValue142
  t139 := Tryz.underlying143
  a139 := Tryz.isAgg143
  z139 := Tryz.sizeOf143
  v139 := Tryz.zeroValue143
  t146 := Tryz.underlying125
  a146 := Tryz.isAgg125
  z146 := Tryz.sizeOf125
  v146 := Tryz.zeroValue125
  g1 := by kernel_rfl
  g3 := by kernel_rfl
  g4 := by kernel_rfl }
def Tryz.laysJoin_ren : Go.Shelf.Ren := ⟨fun | 156 => 67 | 165 => 84 | 166 => 85 | 169 => 82 | 240 => 97 | 241 => 102 | 276 => 117 | 277 => 120 | n => n, fun | 31 => 78 | 9 => 9 | 3 => 3 | 4 => 4 | 0 => 0 | 20 => 20 | 72 => 96 | 76 => 85 | 70 => 93 | 37 => 94 | 75 => 84 | 127 => 109 | 164 => 123 | 5 => 5 | 80 => 82 | n => n, fun | n => n⟩
theorem Tryz.laysJoin : Go.Proofs.Lays.n156 Tryz.prog Tryz.laysJoin_ren := {
  mixed := by kernel_rfl
  f156 := Tryz.func67.trans (congrArg some (by kernel_rfl))
  f165 := Tryz.func84.trans (congrArg some (by kernel_rfl))
  f166 := Tryz.func85.trans (congrArg some (by kernel_rfl))
  f169 := Tryz.func82.trans (congrArg some (by kernel_rfl))
  f240 := Tryz.func97.trans (congrArg some (by kernel_rfl))
  f241 := Tryz.func102.trans (congrArg some (by kernel_rfl))
  f276 := Tryz.func117.trans (congrArg some (by kernel_rfl))
  f277 := Tryz.func120.trans (congrArg some (by kernel_rfl))
  t0 := Tryz.underlying0
  a0 := Tryz.isAgg0
  z0 := Tryz.sizeOf0
  v0 := Tryz.zeroValue0
  t3 := Tryz.underlying3
  a3 := Tryz.isAgg3
  z3 := Tryz.sizeOf3
  v3 := Tryz.zeroValue3
  t4 := Tryz.underlying4
  a4 := Tryz.isAgg4
  z4 := Tryz.sizeOf4
  v4 := Tryz.zeroValue4
  t9 := Tryz.underlying9
  a9 := Tryz.isAgg9
  z9 := Tryz.sizeOf9
  v9 := Tryz.zeroValue9
  t20 := Tryz.underlying20
  a20 := Tryz.isAgg20
  z20 := Tryz.sizeOf20
  v20 := Tryz.zeroValue20
  t31 := Tryz.underlying78
  a31 := Tryz.isAgg78
  z31 := Tryz.sizeOf78
  v31 := Tryz.zeroValue78
  t37 := Tryz.underlying94
  a37 := Tryz.isAgg94
  z37 := Tryz.sizeOf94
  v37 := Tryz.zeroValue94
  t70 := Tryz.underlying93
  a70 := Tryz.isAgg93
  z70 := Tryz.sizeOf93
  v70 := Tryz.zeroValue93
  t72 := Tryz.underlying96
  a72 := Tryz.isAgg96
  z72 := Tryz.sizeOf96
  v72 := Tryz.zeroValue96
  t75 := Tryz.underlying84
  a75 := Tryz.isAgg84
  z75 := Tryz.sizeOf84
  v75 := Tryz.zeroValue84
  t76 := Tryz.underlying85
  a76 := Tryz.isAgg85
  z76 := Tryz.sizeOf85
  v76 := Tryz.zeroValue85
  t127 := Tryz.underlying109
  a127 := Tryz.isAgg109
  z127 := Tryz.sizeOf109
  v127 := Tryz.zeroValue109
  t164 := Tryz.underlying123
  a164 := Tryz.isAgg123
  z164 := Tryz.sizeOf123
  v164 := Tryz.zeroValue123 }
def Tryz.laysHasPrefix_ren : Go.Shelf.Ren := ⟨fun | 99 => 38 | 206 => 76 | n => n, fun | 9 => 9 | 4 => 4 | 3 => 3 | n => n, fun | n => n⟩
theorem Tryz.laysHasPrefix : Go.Proofs.Lays.n99 Tryz.prog Tryz.laysHasPrefix_ren := {
  mixed := by kernel_rfl
  f99 := Tryz.func38.trans (congrArg some (by kernel_rfl))
  f206 := Tryz.func76.trans (congrArg some (by kernel_rfl))
  t3 := Tryz.underlying3
  a3 := Tryz.isAgg3
  z3 := Tryz.sizeOf3
  v3 := Tryz.zeroValue3
  t4 := Tryz.underlying4
  a4 := Tryz.isAgg4
  z4 := Tryz.sizeOf4
  v4 := Tryz.zeroValue4
  t9 := Tryz.underlying9
  a9 := Tryz.isAgg9
  z9 := Tryz.sizeOf9
  v9 := Tryz.zeroValue9 }
def Tryz.laysContains_ren : Go.Shelf.Ren := ⟨fun | 144 => 24 | 143 => 60 | 219 => 83 | 217 => 98 | 225 => 99 | 224 => 100 | 267 => 101 | 266 => 118 | 314 => 119 | n => n, fun | 9 => 9 | 4 => 4 | 3 => 3 | 5 => 5 | 46 => 98 | 146 => 125 | 51 => 120 | n => n, fun | 1 => 1 | n => n⟩
theorem Tryz.laysContains : Go.Proofs.Lays.n144 Tryz.prog Tryz.laysContains_ren := {
  mixed := by kernel_rfl
  f143 := Tryz.func60.trans (congrArg some (by kernel_rfl))
  f144 := Tryz.func24.trans (congrArg some (by kernel_rfl))
  f217 := Tryz.func98.trans (congrArg some (by kernel_rfl))
  f219 := Tryz.func83.trans (congrArg some (by kernel_rfl))
  f224 := Tryz.func100.trans (congrArg some (by kernel_rfl))
  f225 := Tryz.func99.trans (congrArg some (by kernel_rfl))
  f266 := Tryz.func118.trans (congrArg some (by kernel_rfl))
  f267 := Tryz.func101.trans (congrArg some (by kernel_rfl))
  f314 := Tryz.func119.trans (congrArg some (by kernel_rfl))
  t3 := Tryz.underlying3
  a3 := Tryz.isAgg3
  z3 := Tryz.sizeOf3
  v3 := Tryz.zeroValue3
  t4 := Tryz.underlying4
  a4 := Tryz.isAgg4
  z4 := Tryz.sizeOf4
  v4 := Tryz.zeroValue4
  t5 := Tryz.underlying5
  a5 := Tryz.isAgg5
  z5 := Tryz.sizeOf5
  v5 := Tryz.zeroValue5
  t9 := Tryz.underlying9
  a9 := Tryz.isAgg9
  z9 := Tryz.sizeOf9
  v9 := Tryz.zeroValue9
  t46 := Tryz.underlying98
  a46 := Tryz.isAgg98
  z46 := Tryz.sizeOf98
  v46 := Tryz.zeroValue98
  t51 := Tryz.underlying120
  a51 := Tryz.isAgg120
  z51 := Tryz.sizeOf120
  v51 := Tryz.zeroValue120
  t146 := Tryz.underlying125
  a146 := Tryz.isAgg125
  z146 := Tryz.sizeOf125
  v146 := Tryz.zeroValue125
  g1 := by kernel_rfl }
def Tryz.laysIndex_ren : Go.Shelf.Ren := ⟨fun | 219 => 83 | 217 => 98 | 225 => 99 | 224 => 100 | 267 => 101 | 266 => 118 | 314 => 119 | n => n, fun | 9 => 9 | 3 => 3 | 4 => 4 | 5 => 5 | 46 => 98 | 146 => 125 | 51 => 120 | n => n, fun | 1 => 1 | n => n⟩
theorem Tryz.laysIndex : Go.Proofs.Lays.n219 Tryz.prog Tryz.laysIndex_ren := {
  mixed := by kernel_rfl
  f217 := Tryz.func98.trans (congrArg some (by kernel_rfl))
  f219 := Tryz.func83.trans (congrArg some (by kernel_rfl))
  f224 := Tryz.func100.trans (congrArg some (by kernel_rfl))
  f225 := Tryz.func99.trans (congrArg some (by kernel_rfl))
  f266 := Tryz.func118.trans (congrArg some (by kernel_rfl))
  f267 := Tryz.func101.trans (congrArg some (by kernel_rfl))
  f314 := Tryz.func119.trans (congrArg some (by kernel_rfl))
  t3 := Tryz.underlying3
  a3 := Tryz.isAgg3
  z3 := Tryz.sizeOf3
  v3 := Tryz.zeroValue3
  t4 := Tryz.underlying4
  a4 := Tryz.isAgg4
  z4 := Tryz.sizeOf4
  v4 := Tryz.zeroValue4
  t5 := Tryz.underlying5
  a5 := Tryz.isAgg5
  z5 := Tryz.sizeOf5
  v5 := Tryz.zeroValue5
  t9 := Tryz.underlying9
  a9 := Tryz.isAgg9
  z9 := Tryz.sizeOf9
  v9 := Tryz.zeroValue9
  t46 := Tryz.underlying98
  a46 := Tryz.isAgg98
  z46 := Tryz.sizeOf98
  v46 := Tryz.zeroValue98
  t51 := Tryz.underlying120
  a51 := Tryz.isAgg120
  z51 := Tryz.sizeOf120
  v51 := Tryz.zeroValue120
  t146 := Tryz.underlying125
  a146 := Tryz.isAgg125
  z146 := Tryz.sizeOf125
  v146 := Tryz.zeroValue125
  g1 := by kernel_rfl }
def Tryz.laysBString_ren : Go.Shelf.Ren := ⟨fun | 169 => 82 | n => n, fun | 70 => 93 | 9 => 9 | 0 => 0 | 72 => 96 | 37 => 94 | 127 => 109 | 3 => 3 | 5 => 5 | n => n, fun | n => n⟩
theorem Tryz.laysBString : Go.Proofs.Lays.n169 Tryz.prog Tryz.laysBString_ren := {
  mixed := by kernel_rfl
  f169 := Tryz.func82.trans (congrArg some (by kernel_rfl))
  t0 := Tryz.underlying0
  a0 := Tryz.isAgg0
  z0 := Tryz.sizeOf0
  v0 := Tryz.zeroValue0
  t3 := Tryz.underlying3
  a3 := Tryz.isAgg3
  z3 := Tryz.sizeOf3
  v3 := Tryz.zeroValue3
  t9 := Tryz.underlying9
  a9 := Tryz.isAgg9
  z9 := Tryz.sizeOf9
  v9 := Tryz.zeroValue9
  t37 := Tryz.underlying94
  a37 := Tryz.isAgg94
  z37 := Tryz.sizeOf94
  v37 := Tryz.zeroValue94
  t70 := Tryz.underlying93
  a70 := Tryz.isAgg93
  z70 := Tryz.sizeOf93
  v70 := Tryz.zeroValue93
  t72 := Tryz.underlying96
  a72 := Tryz.isAgg96
  z72 := Tryz.sizeOf96
  v72 := Tryz.zeroValue96
  t127 := Tryz.underlying109
  a127 := Tryz.isAgg109
  z127 := Tryz.sizeOf109
  v127 := Tryz.zeroValue109 }
def Tryz.laysFBool_ren : Go.Shelf.Ren := ⟨fun | 121 => 80 | 214 => 96 | n => n, fun | 4 => 4 | 9 => 9 | n => n, fun | n => n⟩
theorem Tryz.laysFBool : Go.Proofs.Lays.n121 Tryz.prog Tryz.laysFBool_ren := {
  mixed := by kernel_rfl
  f121 := Tryz.func80.trans (congrArg some (by kernel_rfl))
  f214 := Tryz.func96.trans (congrArg some (by kernel_rfl))
  t4 := Tryz.underlying4
  a4 := Tryz.isAgg4
  z4 := Tryz.sizeOf4
  v4 := Tryz.zeroValue4
  t9 := Tryz.underlying9
  a9 := Tryz.isAgg9
  z9 := Tryz.sizeOf9
  v9 := Tryz.zeroValue9 }
def Tryz.laysNumD_ren : Go.Shelf.Ren := ⟨fun | 284 => 93 | 129 => 113 | 317 => 112 | 318 => 114 | n => n, fun | 53 => 26 | 3 => 3 | 212 => 119 | 0 => 0 | 4 => 4 | 46 => 98 | 5 => 5 | 9 => 9 | n => n, fun | 17 => 2 | n => n⟩
theorem Tryz.laysNumD : Go.Proofs.LaysM.n284 Tryz.prog Tryz.laysNumD_ren := {
  mixed := by kernel_rfl
  f129 := Tryz.func113.trans (congrArg some (by kernel_rfl))
  f284 := Tryz.func93.trans (congrArg some (by kernel_rfl))
  f317 := Tryz.func112.trans (congrArg some (by kernel_rfl))
  f318 := Tryz.func114.trans (congrArg some (by kernel_rfl))
  t0 := Tryz.underlying0
  a0 := Tryz.isAgg0
  z0 := Tryz.sizeOf0
  v0 := Tryz.zeroValue0
  t3 := Tryz.underlying3
  a3 := Tryz.isAgg3
  z3 := Tryz.sizeOf3
  v3 := Tryz.zeroValue3
  t4 := Tryz.underlying4
  a4 := Tryz.isAgg4
  z4 := Tryz.sizeOf4
  v4 := Tryz.zeroValue4
  t5 := Tryz.underlying5
  a5 := Tryz.isAgg5
  z5 := Tryz.sizeOf5
  v5 := Tryz.zeroValue5
  t9 := Tryz.underlying9
  a9 := Tryz.isAgg9
  z9 := Tryz.sizeOf9
  v9 := Tryz.zeroValue9
  t46 := Tryz.underlying98
  a46 := Tryz.isAgg98
  z46 := Tryz.sizeOf98
  v46 := Tryz.zeroValue98
  t53 := Tryz.underlying26
  a53 := Tryz.isAgg26
  z53 := Tryz.sizeOf26
  v53 := Tryz.zeroValue26
  t212 := Tryz.underlying119
  a212 := Tryz.isAgg119
  z212 := Tryz.sizeOf119
  v212 := Tryz.zeroValue119
  g17 := by kernel_rfl
  i0 := by kernel_rfl
  i3 := by kernel_rfl
  i4 := by kernel_rfl
  i5 := by kernel_rfl
  i9 := by kernel_rfl
  i46 := by kernel_rfl
  i53 := by kernel_rfl
  i212 := by kernel_rfl
  m17 := by kernel_rfl }
def Tryz.laysFB10_ren : Go.Shelf.Ren := ⟨fun | 285 => 94 | n => n, fun | 37 => 94 | 53 => 26 | 3 => 3 | 4 => 4 | 51 => 120 | 9 => 9 | 5 => 5 | 0 => 0 | n => n, fun | n => n⟩
theorem Tryz.laysFB10 : Go.Proofs.Lays.n285 Tryz.prog Tryz.laysFB10_ren := {
  mixed := by kernel_rfl
  f285 := Tryz.func94.trans (congrArg some (by kernel_rfl))
  t0 := Tryz.underlying0
  a0 := Tryz.isAgg0
  z0 := Tryz.sizeOf0
  v0 := Tryz.zeroValue0
  t3 := Tryz.underlying3
  a3 := Tryz.isAgg3
  z3 := Tryz.sizeOf3
  v3 := Tryz.zeroValue3
  t4 := Tryz.underlying4
  a4 := Tryz.isAgg4
  z4 := Tryz.sizeOf4
  v4 := Tryz.zeroValue4
  t5 := Tryz.underlying5
  a5 := Tryz.isAgg5
  z5 := Tryz.sizeOf5
  v5 := Tryz.zeroValue5
  t9 := Tryz.underlying9
  a9 := Tryz.isAgg9
  z9 := Tryz.sizeOf9
  v9 := Tryz.zeroValue9
  t37 := Tryz.underlying94
  a37 := Tryz.isAgg94
  z37 := Tryz.sizeOf94
  v37 := Tryz.zeroValue94
  t51 := Tryz.underlying120
  a51 := Tryz.isAgg120
  z51 := Tryz.sizeOf120
  v51 := Tryz.zeroValue120
  t53 := Tryz.underlying26
  a53 := Tryz.isAgg26
  z53 := Tryz.sizeOf26
  v53 := Tryz.zeroValue26 }
def Tryz.laysSmall_ren : Go.Shelf.Ren := ⟨fun | 283 => 92 | n => n, fun | 3 => 3 | 9 => 9 | 4 => 4 | n => n, fun | n => n⟩
theorem Tryz.laysSmall : Go.Proofs.Lays.n283 Tryz.prog Tryz.laysSmall_ren := {
  mixed := by kernel_rfl
  f283 := Tryz.func92.trans (congrArg some (by kernel_rfl))
  t3 := Tryz.underlying3
  a3 := Tryz.isAgg3
  z3 := Tryz.sizeOf3
  v3 := Tryz.zeroValue3
  t4 := Tryz.underlying4
  a4 := Tryz.isAgg4
  z4 := Tryz.sizeOf4
  v4 := Tryz.zeroValue4
  t9 := Tryz.underlying9
  a9 := Tryz.isAgg9
  z9 := Tryz.sizeOf9
  v9 := Tryz.zeroValue9 }
end Go.Proofs

namespace Go.Proofs.YtgmeojpekdekeaaGreatDoor
open Go Go.RowKit
set_option linter.unusedVariables false
set_option linter.unusedSimpArgs false
set_option maxRecDepth 100000
theorem nw_drewN (w : World) (n : Nat) : Nw w (w.drewN n) := ⟨rfl, rfl, rfl, Nat.le_refl _, fun _ _ _ => rfl⟩
theorem index1_use (s : ByteArray) (c : UInt8) (w : World) : Does Tryz.prog 83 #[.string s, .string { data := #[c] }] w (fun r w' => r = .int .i64 (Lib.indexByte (bs s) c) ∧ w' = w) :=
  Calls.mono (Any.stringslite_Index_one { Tryz.laysIndex with } s c w) fun _ _ ⟨e, b⟩ => ⟨_, e, rfl, b⟩
theorem extract_bs (s : ByteArray) (a b : Nat) : s.extract a b = sb (((bs s).drop a).take (b - a)) := Lib.extract_eq s a b
theorem cut_hit {s : ByteArray} {c : UInt8} {o : Nat} (h : Lib.indexByte (bs s) c = (o : Int)) : o < s.size ∧ Lib.cut (bs s) [c] = ((bs s).take o, (bs s).drop (o + 1), true) := by
  obtain ⟨h1, _⟩ := Lib.indexByte_some h
  refine ⟨by rw [← bs_length]; exact (List.getElem?_eq_some_iff.1 h1).1, ?_⟩
  unfold Lib.cut
  rw [Lib.index_one, h, if_pos (by omega)]; rfl
theorem cut_mis {s : ByteArray} {c : UInt8} (h : ¬ 0 ≤ Lib.indexByte (bs s) c) : Lib.cut (bs s) [c] = (bs s, [], false) := by
  unfold Lib.cut
  rw [Lib.index_one, if_neg h]
theorem scut_walk (s : ByteArray) (c : UInt8) (w0 : World) (hs : s.size ≤ 1000000000000000) : Does Tryz.prog 68 #[.string s, .string { data := #[c] }] w0 (fun r w' => r = .tuple #[.string (sb (Lib.cut (bs s) [c]).1), .string (sb (Lib.cut (bs s) [c]).2.1), .bool (Lib.cut (bs s) [c]).2.2] ∧ Nw w0 w') := by
  have hc1 : ({ data := #[c] } : ByteArray).size = 1 := rfl
  refine fn_of (n := 23) (args := [.string s, .string { data := #[c] }]) Tryz.func68 rfl rfl rfl (W_seq (W_region (L_r (r_as rfl) (L_r (r_as rfl) (L_r (r_ab rfl) (L_nil (W_seq (W_seq ?_))))))))
  refine W_region (L_r (r_ms rfl) (L_r (r_ms rfl) ?_))
  refine L_call (.plain rfl) rfl rfl (r_call Tryz.func83 rfl rfl rfl (by rfl)) (index1_use s c _) ?_
  rintro v10 w1 ⟨rfl, rfl⟩
  refine L_r (r_ai rfl) (L_nil (W_seq (W_region (L_r (r_mi rfl) (L_r (r_geq rfl rfl) (L_nil ?_))))))
  refine W_if rfl (fun h12 => ?_) (fun h12 => ?_)
  ·
   obtain ⟨o, ho⟩ : ∃ o : Nat, Lib.indexByte (bs s) c = o := ⟨(Lib.indexByte (bs s) c).toNat, by omega⟩
   obtain ⟨hlt, hcut⟩ := cut_hit ho
   rw [hcut]
   rw [ho]
   refine W_seq ?_
   refine W_still (by kernel_rfl) (by kernel_rfl) (fun w2 c2 hs2 => ?_)
   refine H_r (r_ms rfl) ?_
   refine H_r (r_mi rfl) ?_
   refine H_r (r_slices_h Tryz.underlying9 rfl rfl (by omega) (by omega)) ?_
   refine H_r (r_ms rfl) ?_
   refine H_r (r_mi rfl) ?_
   refine H_r (r_ms rfl) ?_
   refine H_r (r_lens Tryz.underlying9 rfl) ?_
   refine H_r (r_add rfl rfl (by first | exact wr_i64 (by omega) | rfl)) ?_
   have hxs : s.extract (o + 1) s.size = sb ((bs s).drop (o + 1)) := by { rw [extract_bs, List.take_of_length_le (by rw [List.length_drop, bs_length]; omega)] }
   have hxt : s.extract 0 o = sb ((bs s).take o) := by { rw [extract_bs]; simp }
   refine H_r (r_slices_l Tryz.underlying9 rfl rfl (by omega) (by omega)) ?_
   refine H_r (r_as rfl) ?_
   refine H_r (r_as rfl) ?_
   refine H_r (r_ab rfl) ?_
   refine H_nil (W_ret ?_)
   refine ret3 (u := .string _) (v := .string _) (x := .bool _) rfl rfl rfl rfl ?_
   first
   | (refine ⟨?_, Ch.au⟩
      rw [← hxs, ← hxt]; rfl)
   | (refine ⟨?_, Ch.au⟩
      rw [cut_mis (by assumption), sb_bs]; rfl)
  ·
   refine W_skip (W_seq (W_region (L_r (r_ms rfl) (L_r (r_as rfl) (L_r (r_as rfl) (L_r (r_ab rfl) (L_nil (W_ret ?_))))))))
   refine ret3 (u := .string _) (v := .string _) (x := .bool _) rfl rfl rfl rfl ?_
   first
   | (refine ⟨?_, Ch.au⟩
      rw [← hxs, ← hxt]; rfl)
   | (refine ⟨?_, Ch.au⟩
      rw [cut_mis (by assumption), sb_bs]; rfl)
theorem cut1_walk (s : ByteArray) (c : UInt8) (w0 : World) (hs : s.size ≤ 1000000000000000) : Does Tryz.prog 36 #[.string s, .string { data := #[c] }] w0 (fun r w' => r = .tuple #[.string (sb (Lib.cut (bs s) [c]).1), .string (sb (Lib.cut (bs s) [c]).2.1), .bool (Lib.cut (bs s) [c]).2.2] ∧ Nw w0 w') := by
  refine fn_of (n := 13) (args := [.string s, .string { data := #[c] }]) Tryz.func36 rfl rfl rfl (W_seq (W_region (L_r (r_as rfl) (L_r (r_as rfl) (L_r (r_ab rfl) (L_nil (W_seq (W_region ?_))))))))
  refine L_r (r_ms rfl) (L_r (r_ms rfl) ?_)
  refine L_call (.plain rfl) rfl rfl (r_call Tryz.func68 rfl rfl rfl (by rfl)) (scut_walk s c _ hs) ?_
  rintro v9 w1 ⟨rfl, c1⟩
  have hz1 := c1.size
  refine L_r (r_ext3_0 rfl) (L_r (r_ext3_1 rfl) (L_r (r_ext3_2 rfl) (L_r (r_as rfl) (L_r (r_as rfl) (L_r (r_ab rfl) (L_nil (W_ret ?_)))))))
  refine ret3 (u := .string _) (v := .string _) (x := .bool _) rfl rfl rfl rfl ?_
  exact ⟨rfl, Ch.au⟩
abbrev arr2 : ByteArray := { data := #[91, 93] }
def endsA (l : List UInt8) : Bool := Lib.hasSuffix l [91, 93]
theorem endsA_le {l : List UInt8} (h : endsA l = true) : 2 ≤ l.length := by
  have h' : ([91, 93] : List UInt8).isSuffixOf l = true := h
  exact (List.isSuffixOf_iff_suffix.1 h').length_le
def baseF (l : List UInt8) : List UInt8 × Nat :=
  if h : endsA l = true then ((baseF (l.take (l.length - 2))).1, (baseF (l.take (l.length - 2))).2 + 1) else (l, 0)
termination_by l.length
decreasing_by
  all_goals
    have := endsA_le h
    rw [List.length_take]; omega
def plainP (s : ByteArray) : Prop := s = { data := #[105, 110, 116] } ∨ s = { data := #[98, 111, 111, 108] } ∨ s = { data := #[116, 101, 120, 116] }
instance (s : ByteArray) : Decidable (plainP s) := inferInstanceAs (Decidable (_ ∨ _))
def baseS (s : ByteArray) : ByteArray := sb (baseF (bs s)).1
def baseN (s : ByteArray) : Nat := (baseF (bs s)).2
def rightK (s : ByteArray) : Prop := baseN s ≤ 3 ∧ (plainP (baseS s) ∨ classP (baseS s))
instance (s : ByteArray) : Decidable (rightK s) := inferInstanceAs (Decidable (_ ∧ _))
def deepN (s : ByteArray) : Nat := if rightK s then baseN s else 0
end Go.Proofs.YtgmeojpekdekeaaGreatDoor

namespace Go.Proofs.YtgmeojpekdekeaaGreatDoor
open Go Go.RowKit
set_option linter.unusedVariables false
set_option linter.unusedSimpArgs false
set_option maxRecDepth 100000
def memP (s : ByteArray) : Prop := nameP s ∧ smallC (bat s 0).toNat
instance (s : ByteArray) : Decidable (memP s) := inferInstanceAs (Decidable (_ ∧ _))
theorem memP_iff (s : ByteArray) : memP s ↔ (nameP s ∧ ¬ classP s) := by
  unfold memP classP
  constructor
  ·
   rintro ⟨h, h2⟩
   refine ⟨h, fun h3 => ?_⟩
   have := h3.2
   unfold smallC greatC at *; omega
  ·
   rintro ⟨h, h2⟩
   obtain ⟨h1, _, h3, h4⟩ := id h
   have h5 := h4 0 h1
   refine ⟨h, ?_⟩
   have h6 : ¬ greatC (bat s 0).toNat := fun hg => h2 ⟨h, hg⟩
   unfold nameC at h5
   rcases h5 with h5 | h5 | h5
   · exact absurd h5 h6
   · exact h5
   · exact absurd h5 h3
def partsO (s : ByteArray) : Option (ByteArray × ByteArray) :=
  if (Lib.cut (bs s) [46]).2.2 = true ∧ classP (sb (Lib.cut (bs s) [46]).1) ∧ memP (sb (Lib.cut (bs s) [46]).2.1) then some (sb (Lib.cut (bs s) [46]).1, sb (Lib.cut (bs s) [46]).2.1) else none
def partsV : Option (ByteArray × ByteArray) → Value
  | some (a, b) => .tuple #[.string a, .string b, .int .i64 0]
  | none => .tuple #[.string { data := #[] }, .string { data := #[] }, .int .i64 30]
end Go.Proofs.YtgmeojpekdekeaaGreatDoor

namespace Go.Proofs.YtgmeojpekdekeaaGreatDoor
open Go Go.RowKit
set_option linter.unusedVariables false
set_option linter.unusedSimpArgs false
set_option maxRecDepth 100000
structure Va where
  sort : Int
  n : Int
  s : ByteArray
  ref : Int
structure Dd where
  kind : ByteArray
  side : Int
  obj : Nat
  method : ByteArray
  args : List Va
  n : Int
  at' : Int
  ref : Int
  cls : ByteArray
  bytes : ByteArray
/-- A deed, and where its arguments lie. -/
structure DD where
  d : Dd
  va : Value
structure Gt where
  life : Nat
  seq : Nat
  way : Int
  v : Va
  body : ByteArray
abbrev val (v : Va) : List Value := [.int .i64 v.sort, .int .i64 v.n, .string v.s, .int .i64 v.ref]
abbrev ddl (x : DD) : List Value := [.string x.d.kind, .int .i64 x.d.side, .int .u64 (x.d.obj : Int), .string x.d.method, x.va, .int .i64 x.d.n, .int .i64 x.d.at', .int .i64 x.d.ref, .string x.d.cls, .string x.d.bytes]
abbrev gtl (g : Gt) : List Value := [.int .u64 (g.life : Int), .int .u64 (g.seq : Int), .int .i64 g.way, .int .i64 g.v.sort, .int .i64 g.v.n, .string g.v.s, .int .i64 g.v.ref, .string g.body]
abbrev Va.v (v : Va) : Value := .agg #[.int .i64 v.sort, .int .i64 v.n, .string v.s, .int .i64 v.ref]
abbrev DD.v (x : DD) : Value := .agg #[.string x.d.kind, .int .i64 x.d.side, .int .u64 (x.d.obj : Int), .string x.d.method, x.va, .int .i64 x.d.n, .int .i64 x.d.at', .int .i64 x.d.ref, .string x.d.cls, .string x.d.bytes]
def cellsVa (l : List Va) : List Value := l.flatMap val
def cellsDD (l : List DD) : List Value := l.flatMap ddl
def cellsGt (l : List Gt) : List Value := l.flatMap gtl
def txs (l : List ByteArray) : List Value := l.map Value.string
theorem flatD_row {X : Type} (f : X → List Value) (sz : Nat) (hf : ∀ x, (f x).length = sz) : ∀ (z : List X) (i : Nat) (h : i < z.length) (j : Nat) (u : Value), (f z[i])[j]? = some u → (z.flatMap f)[i * sz + j]? = some u
  | x :: z, 0, _, j, u, hj => by
    have hj9 : j < sz := by have := (List.getElem?_eq_some_iff.1 hj).1; simpa [hf] using this
    simp only [List.flatMap_cons, Nat.zero_mul, Nat.zero_add]
    rw [List.getElem?_append_left (by rw [hf]; exact hj9)]
    exact hj
  | x :: z, i + 1, h, j, u, hj => by
    have := flatD_row f sz hf z i (by simpa using h) j u hj
    simp only [List.flatMap_cons]
    rw [List.getElem?_append_right (by rw [hf, Nat.succ_mul]; omega)]
    rw [show (i + 1) * sz + j - (f x).length = i * sz + j by rw [hf, Nat.succ_mul]; omega]
    exact this
theorem cellsVa_row (z : List Va) (i : Nat) (h : i < z.length) (j : Nat) (u : Value) : (val z[i])[j]? = some u → (cellsVa z)[i * 4 + j]? = some u := flatD_row val 4 (fun _ => rfl) z i h j u
theorem cellsDD_row (z : List DD) (i : Nat) (h : i < z.length) (j : Nat) (u : Value) : (ddl z[i])[j]? = some u → (cellsDD z)[i * 10 + j]? = some u := flatD_row ddl 10 (fun _ => rfl) z i h j u
theorem cellsGt_row (z : List Gt) (i : Nat) (h : i < z.length) (j : Nat) (u : Value) : (gtl z[i])[j]? = some u → (cellsGt z)[i * 8 + j]? = some u := flatD_row gtl 8 (fun _ => rfl) z i h j u
theorem cellsVa_append (M K : List Va) : cellsVa (M ++ K) = cellsVa M ++ cellsVa K := by simp [cellsVa]
theorem cellsDD_append (M K : List DD) : cellsDD (M ++ K) = cellsDD M ++ cellsDD K := by simp [cellsDD]
theorem txs_append (M K : List ByteArray) : txs (M ++ K) = txs M ++ txs K := by simp [txs]
/-- The arguments lie where the deed says. -/
def DD.ok (w : World) (x : DD) : Prop := Sl w x.va 4 x.d.args.length (cellsVa x.d.args)
theorem DD.ok.nw {w w' : World} {x : DD} (h : x.ok w) (c : Nw w w') : x.ok w' := Sl.nw c h
/-! ### what a kind has -/
abbrev kCall : ByteArray := { data := #[99, 97, 108, 108] }
abbrev kTick : ByteArray := { data := #[116, 105, 99, 107] }
abbrev kStep : ByteArray := { data := #[115, 116, 101, 112] }
abbrev kRest : ByteArray := { data := #[114, 101, 115, 116, 97, 114, 116] }
abbrev kExp : ByteArray := { data := #[101, 120, 112, 111, 114, 116] }
abbrev kMake : ByteArray := { data := #[109, 97, 107, 101] }
abbrev kDel : ByteArray := { data := #[100, 101, 108, 105, 118, 101, 114] }
abbrev kCopy : ByteArray := { data := #[99, 111, 112, 121] }
abbrev kLose : ByteArray := { data := #[108, 111, 115, 101] }
abbrev kTurn : ByteArray := { data := #[116, 117, 114, 110] }
abbrev kInj : ByteArray := { data := #[105, 110, 106, 101, 99, 116] }
/-- The table: kinds, and their letters. -/
def entT : List (ByteArray × ByteArray) :=
  [(kCall, { data := #[115, 111, 109, 97] }), (kTick, { data := #[115] }), (kStep, { data := #[115, 110] }), (kRest, { data := #[115] }), (kExp, { data := #[115, 114] }), (kMake, { data := #[115, 99] }),
   (kDel, { data := #[110] }), (kCopy, { data := #[110] }), (kLose, { data := #[110] }), (kTurn, { data := #[110, 116, 98] }), (kInj, { data := #[115, 98] })]
def hasO (k : ByteArray) : Option ByteArray := (entT.find? fun e => decide (e.1 = k)).map Prod.snd
def hasF (k : ByteArray) : ByteArray := (hasO k).getD { data := #[] }
def hasC (k : ByteArray) (c : UInt8) : Prop := c ∈ bs (hasF k)
instance (k : ByteArray) (c : UInt8) : Decidable (hasC k c) := inferInstanceAs (Decidable (_ ∈ _))
/-! ### which deeds have a text -/
abbrev mtB : ByteArray := { data := #[] }
def argP (v : Va) : Prop := (v.sort = 0 ∧ v.n = 0 ∧ v.s = mtB ∧ v.ref = 0) ∨ (v.sort = 1 ∧ v.s = mtB ∧ v.ref = 0) ∨ (v.sort = 2 ∧ (v.n = 0 ∨ v.n = 1) ∧ v.s = mtB ∧ v.ref = 0) ∨ (v.sort = 4 ∧ v.n = 0 ∧ v.s = mtB ∧ 0 ≤ v.ref ∧ v.ref ≤ 1000000)
instance (v : Va) : Decidable (argP v) := inferInstanceAs (Decidable (_ ∨ _))
def numP (n : Int) (t : Prop) : Prop := n = 0 ∨ (t ∧ 0 < n ∧ n ≤ 1000000)
structure chkD (d : Dd) : Prop where
  kind : (hasO d.kind).isSome = true
  len : d.args.length ≤ 8
  has : d.args ≠ [] → hasC d.kind 97
  args : ∀ v ∈ d.args, argP v
  side : d.side = 0 ∨ (d.side = 1 ∧ hasC d.kind 115)
  n : numP d.n (hasC d.kind 110)
  at' : numP d.at' (hasC d.kind 116)
  ref : numP d.ref (hasC d.kind 114)
  obj : d.obj = 0 ∨ hasC d.kind 111
  bytes : d.bytes = mtB ∨ (hasC d.kind 98 ∧ d.bytes.size ≤ 100)
  m1 : hasC d.kind 109 → memP d.method
  m0 : ¬ hasC d.kind 109 → d.method = mtB
  c1 : hasC d.kind 99 → classP d.cls
  c0 : ¬ hasC d.kind 99 → d.cls = mtB
noncomputable instance (d : Dd) : Decidable (chkD d) := Classical.propDecidable _
/-! ### its text -/
def hexD (n : Nat) : UInt8 := if n < 10 then UInt8.ofNat (48 + n) else UInt8.ofNat (87 + n)
def hexL (l : List UInt8) : List UInt8 := l.flatMap fun b => [hexD (b.toNat / 16), hexD (b.toNat % 16)]
def hexB (s : ByteArray) : List UInt8 := if s = mtB then [46] else hexL (bs s)
abbrev trueB : List UInt8 := [116, 114, 117, 101]
abbrev falseB : List UInt8 := [102, 97, 108, 115, 101]
abbrev nullB : List UInt8 := [110, 117, 108, 108]
def valB (v : Va) : List UInt8 :=
  if v.sort = 1 then Lib.itoa v.n else if v.sort = 2 then (if v.n = 1 then trueB else falseB) else if v.sort = 3 then 58 :: hexB v.s else if v.sort = 4 then 64 :: Lib.itoa v.ref else nullB
/-- What stands for a letter. -/
def letB (d : Dd) (c : UInt8) : List (List UInt8) :=
  if c = 115 then [Lib.itoa d.side] else if c = 111 then [Lib.decDigits d.obj] else if c = 109 then [bs d.method] else if c = 110 then [Lib.itoa d.n] else if c = 116 then [Lib.itoa d.at'] else if c = 114 then [Lib.itoa d.ref] else if c = 99 then [bs d.cls] else if c = 98 then [hexB d.bytes] else if c = 97 then d.args.map valB else []
def parB (d : Dd) : List (List UInt8) := (bs (hasF d.kind)).flatMap (letB d)
def bodB (d : Dd) : List UInt8 := Lib.join (bs d.kind :: parB d) [32]
def linD (d : Dd) : List UInt8 := bodB d ++ [10]
theorem bodB_eq (d : Dd) : bodB d = bs d.kind ++ Lib.joinTail [32] (parB d) := Lib.join_cons _ _ _
/-- A call's outcome. -/
def gotB (side : Int) (g : Gt) : List UInt8 :=
  [103, 111, 116, 32] ++ Lib.itoa side ++ [32] ++ Lib.decDigits g.life ++ [32] ++ Lib.decDigits g.seq ++
    (if g.way = 0 then [32, 118, 97, 108, 117, 101, 32] ++ valB g.v else if g.way = 1 then [32, 116, 104, 114, 111, 119, 110, 32] ++ hexB g.body else if g.way = 2 then [32, 114, 101, 102, 117, 115, 101, 100, 32] ++ hexB g.body else [32, 110, 111, 116, 104, 105, 110, 103]) ++ [10]
end Go.Proofs.YtgmeojpekdekeaaGreatDoor

namespace Go.Proofs.YtgmeojpekdekeaaGreatDoor
open Go Go.RowKit
set_option linter.unusedVariables false
set_option linter.unusedSimpArgs false
set_option maxRecDepth 100000
theorem pu_app (M d : Nat) (c : UInt8) (hc : c.toNat = 48 + d) (hd : d < 10) : ∀ (l : List UInt8) (a b : Nat), Lib.parseUintM M a l = .ok b → b < 1844674407370955162 → b * 10 + d ≤ M → Lib.parseUintM M a (l ++ [c]) = .ok (b * 10 + d)
  | [], a, b, h, h1, h2 => by
    have e : a = b := by unfold Lib.parseUintM at h; injection h
    subst e
    show Lib.parseUintM M a [c] = _
    unfold Lib.parseUintM
    rw [if_pos (by omega), if_neg (by omega), if_neg (by omega)]
    unfold Lib.parseUintM
    congr 1; omega
  | x :: l, a, b, h, h1, h2 => by
    show Lib.parseUintM M a (x :: (l ++ [c])) = _
    unfold Lib.parseUintM at h ⊢
    split at h
    ·
     rename_i g1
     rw [if_pos g1]
     split at h
     · cases h
     ·
      rename_i g2
      rw [if_neg g2]
      split at h
      · cases h
      ·
       rename_i g3
       rw [if_neg g3]
       exact pu_app M d c hc hd l _ b h h1 h2
    · cases h
theorem pu_digits (u : Nat) (hu : u ≤ 18446744073709551615) : Lib.parseUintM 18446744073709551615 0 (Lib.decDigits u) = .ok u := by
  induction u using Nat.strongRecOn with
  | ind u ih =>
    by_cases h : u < 10
    ·
     rw [Lib.decDigits, dif_pos h]
     have := pu_app 18446744073709551615 u (UInt8.ofNat (48 + u)) (by rw [UInt8.toNat_ofNat']; omega) h [] 0 0 (by unfold Lib.parseUintM; rfl) (by decide) (by omega)
     simpa using this
    ·
     rw [Lib.decDigits, dif_neg h]
     have i := ih (u / 10) (by omega) (by omega)
     have := pu_app 18446744073709551615 (u % 10) (UInt8.ofNat (48 + u % 10)) (by rw [UInt8.toNat_ofNat']; omega) (by omega) _ 0 _ i (by omega) (by omega)
     rw [this]; congr 1; omega
theorem dd_head (u : Nat) : ∃ c t, Lib.decDigits u = c :: t ∧ 48 ≤ c.toNat ∧ c.toNat ≤ 57 := by
  induction u using Nat.strongRecOn with
  | ind u ih =>
    by_cases h : u < 10
    ·
     rw [Lib.decDigits, dif_pos h]
     exact ⟨_, [], rfl, by rw [UInt8.toNat_ofNat']; omega, by rw [UInt8.toNat_ofNat']; omega⟩
    ·
     rw [Lib.decDigits, dif_neg h]
     obtain ⟨c, t, e, h1, h2⟩ := ih (u / 10) (by omega)
     exact ⟨c, t ++ [UInt8.ofNat (48 + u % 10)], by rw [e]; rfl, h1, h2⟩
theorem int_itoa {n : Int} (hn : -9223372036854775808 ≤ n ∧ n ≤ 9223372036854775807) : Lib.parseIntB 64 (Lib.itoa n) = .ok n := by
  unfold Lib.itoa
  by_cases h : n < 0
  ·
   rw [if_pos h]
   unfold Lib.parseIntB
   simp only
   obtain ⟨c, t, e, _, _⟩ := dd_head n.natAbs
   have hu : Lib.parseUintB 64 (Lib.decDigits n.natAbs) = .ok n.natAbs := by
     unfold Lib.parseUintB
     rw [if_neg (by rw [e]; simp)]
     exact pu_digits _ (by omega)
   rw [if_pos (by right; rfl), hu]
   simp only
   have h45 : (45 : UInt8).toNat = 45 := rfl
   rw [if_neg (fun k => k.1 h45), if_neg (fun k => by have := k.2; omega), if_pos h45]
   congr 1; omega
  ·
   rw [if_neg h]
   obtain ⟨c, t, e, h1, h2⟩ := dd_head n.toNat
   have hu : Lib.parseUintB 64 (Lib.decDigits n.toNat) = .ok n.toNat := by
     unfold Lib.parseUintB
     rw [if_neg (by rw [e]; simp)]
     exact pu_digits _ (by omega)
   rw [e] at hu ⊢
   unfold Lib.parseIntB
   simp only
   rw [if_neg (by omega), hu]
   simp only
   rw [if_neg (fun k => by have := k.2; omega), if_neg (fun k => by have := k.1; omega), if_neg (by omega)]
   congr 1; omega
theorem digits_len (u : Nat) (h : u ≤ 18446744073709551615) : (Lib.decDigits u).length ≤ 20 := by
  rw [Lib.decDigits_length]
  rcases Nat.lt_or_ge 20 (Lib.nDigits u) with h1 | h1
  ·
   exfalso
   have h2 : ∀ (k u : Nat), k + 1 ≤ Lib.nDigits u → 10 ^ k ≤ u ∨ k = 0 := by
     intro k
     induction k with
     | zero => exact fun _ _ => .inr rfl
     | succ k ih =>
       intro u hu
       left
       by_cases h10 : u < 10
       · rw [Lib.nDigits_small h10] at hu; omega
       ·
        rw [Lib.nDigits_big h10] at hu
        rcases ih (u / 10) (by omega) with h | h
        · rw [Nat.pow_succ]; omega
        · subst h; omega
   rcases h2 20 u (by omega) with h3 | h3 <;> omega
  · exact h1
theorem itoa_len {n : Int} (hn : -9223372036854775808 ≤ n ∧ n ≤ 9223372036854775807) : (Lib.itoa n).length ≤ 21 := by
  unfold Lib.itoa
  split
  · rw [List.length_cons]; have := digits_len n.natAbs (by omega); omega
  · have := digits_len n.toNat (by omega); omega
theorem cut_cases (c : UInt8) (l : List UInt8) : (∃ p t, l = p ++ c :: t ∧ (∀ x ∈ p, x ≠ c) ∧ Lib.cut l [c] = (p, t, true)) ∨ ((∀ x ∈ l, x ≠ c) ∧ Lib.cut l [c] = (l, [], false)) := by
  unfold Lib.cut
  rw [Lib.index_one]
  have hge := Lib.indexByte_ge l c
  by_cases h : 0 ≤ Lib.indexByte l c
  ·
   left
   rw [if_pos h]
   obtain ⟨o, ho⟩ : ∃ o : Nat, Lib.indexByte l c = o := ⟨(Lib.indexByte l c).toNat, by omega⟩
   obtain ⟨h1, h2⟩ := Lib.indexByte_some ho
   obtain ⟨hol, hoe⟩ := List.getElem?_eq_some_iff.1 h1
   refine ⟨l.take o, l.drop (o + 1), ?_, ?_, ?_⟩
   · conv => lhs; rw [← List.take_append_drop o l, List.drop_eq_getElem_cons hol, hoe]
   ·
    intro x hx e
    obtain ⟨j, hj, hje⟩ := List.mem_iff_getElem.1 hx
    rw [List.length_take] at hj
    have := h2 j (by omega)
    apply this
    rw [List.getElem_take] at hje
    rw [List.getElem?_eq_getElem (by omega), hje, e]
   · rw [ho]; rfl
  ·
   right
   rw [if_neg h]
   refine ⟨fun x hx e => ?_, rfl⟩
   obtain ⟨j, hj, hje⟩ := List.mem_iff_getElem.1 hx
   have := Lib.indexByte_none (show Lib.indexByte l c = -1 by omega) j
   apply this
   rw [List.getElem?_eq_getElem hj, hje, e]
theorem split_one {c : UInt8} : ∀ (p q t u : List UInt8), (∀ x ∈ p, x ≠ c) → (∀ x ∈ q, x ≠ c) → p ++ c :: t = q ++ c :: u → p = q ∧ t = u
  | [], [], t, u, _, _, e => by simpa using e
  | [], d :: q, t, u, _, hq, e => by simp at e; exact absurd e.1.symm (hq d List.mem_cons_self)
  | a :: p, [], t, u, hp, _, e => by simp at e; exact absurd e.1 (hp a List.mem_cons_self)
  | a :: p, d :: q, t, u, hp, hq, e => by
    simp at e
    obtain ⟨h1, h2⟩ := split_one p q t u (fun x hx => hp x (List.mem_cons_of_mem _ hx)) (fun x hx => hq x (List.mem_cons_of_mem _ hx)) e.2
    rw [e.1, h1]; exact ⟨rfl, h2⟩
theorem cut_at {c : UInt8} {p t : List UInt8} (hp : ∀ x ∈ p, x ≠ c) : Lib.cut (p ++ c :: t) [c] = (p, t, true) := by
  rcases cut_cases c (p ++ c :: t) with ⟨q, u, h1, h2, h3⟩ | ⟨h1, _⟩
  ·
   obtain ⟨rfl, rfl⟩ := split_one _ _ _ _ hp h2 h1
   exact h3
  · exact absurd rfl (h1 c (by simp))
/-! ### split at a byte -/
theorem index_hit {c : UInt8} {p t : List UInt8} (hp : ∀ x ∈ p, x ≠ c) : Lib.index (p ++ c :: t) [c] = p.length := by
  rw [Lib.index_one]
  have hge := Lib.indexByte_ge (p ++ c :: t) c
  have hc : Lib.cut (p ++ c :: t) [c] = (p, t, true) := cut_at hp
  unfold Lib.cut at hc
  rw [Lib.index_one] at hc
  by_cases h : 0 ≤ Lib.indexByte (p ++ c :: t) c
  ·
   rw [if_pos h] at hc
   have h1 := congrArg List.length (congrArg Prod.fst hc)
   simp only [List.length_take] at h1
   obtain ⟨o, ho⟩ : ∃ o : Nat, Lib.indexByte (p ++ c :: t) c = o := ⟨(Lib.indexByte (p ++ c :: t) c).toNat, by omega⟩
   obtain ⟨k1, _⟩ := Lib.indexByte_some ho
   have k2 := (List.getElem?_eq_some_iff.1 k1).1
   rw [ho] at h1 ⊢
   simp only [Int.toNat_natCast] at h1
   omega
  ·
   rw [if_neg h] at hc
   have h9 := congrArg (fun x => x.2.2) hc
   simp at h9
theorem index_miss {c : UInt8} {p : List UInt8} (hp : ∀ x ∈ p, x ≠ c) : Lib.index p [c] = -1 := by
  rw [Lib.index_one]
  have hge := Lib.indexByte_ge p c
  rcases Int.lt_or_le (Lib.indexByte p c) 0 with h | h
  · omega
  ·
   obtain ⟨o, ho⟩ : ∃ o : Nat, Lib.indexByte p c = o := ⟨(Lib.indexByte p c).toNat, by omega⟩
   obtain ⟨k1, _⟩ := Lib.indexByte_some ho
   exact absurd rfl (hp c (List.mem_of_getElem? k1))
theorem split_no {c : UInt8} {p : List UInt8} (hp : ∀ x ∈ p, x ≠ c) : Lib.split p [c] = [p] := by
  unfold Lib.split
  rw [Lib.count_miss (index_miss hp)]
  rfl
theorem split_at {c : UInt8} {p t : List UInt8} (hp : ∀ x ∈ p, x ≠ c) : Lib.split (p ++ c :: t) [c] = p :: Lib.split t [c] := by
  have hi := index_hit (t := t) hp
  have hd : (p ++ c :: t).drop (p.length + 1) = t := by
    rw [List.drop_append, List.drop_eq_nil_of_le (by omega)]
    simp
  have hcn := Lib.count_hit (s := p ++ c :: t) (sub := [c]) (by simp) hi
  have e1 : (p ++ c :: t).drop (p.length + [c].length) = t := hd
  rw [e1] at hcn
  unfold Lib.split
  rw [hcn, Nat.add_comm]
  have es : Lib.splitK [c] 0 (Lib.count t [c] + 1) (p ++ c :: t) = (if Lib.index (p ++ c :: t) [c] == -1 then [p ++ c :: t] else (p ++ c :: t).take ((Lib.index (p ++ c :: t) [c]).toNat + 0) :: Lib.splitK [c] 0 (Lib.count t [c]) ((p ++ c :: t).drop ((Lib.index (p ++ c :: t) [c]).toNat + [c].length))) := rfl
  have em : ¬ ((Lib.index (p ++ c :: t) [c] == -1) = true) := by
    intro k
    have k2 : Lib.index (p ++ c :: t) [c] = -1 := by simpa using k
    omega
  rw [es, if_neg em, hi]
  simp only [Int.toNat_natCast, Nat.add_zero]
  rw [e1]
  congr 1
  simp
theorem split_join {c : UInt8} : ∀ (x : List UInt8) (l : List (List UInt8)), (∀ y ∈ x :: l, ∀ b ∈ y, b ≠ c) → Lib.split (Lib.join (x :: l) [c]) [c] = x :: l
  | x, [], h => by
    rw [Lib.join_one]
    exact split_no (h x List.mem_cons_self)
  | x, y :: l, h => by
    have e : Lib.join (x :: y :: l) [c] = x ++ c :: Lib.join (y :: l) [c] := by
      rw [Lib.join_cons, Lib.join_cons]
      simp [Lib.joinTail]
    rw [e, split_at (h x List.mem_cons_self), split_join y l fun z hz => h z (List.mem_cons_of_mem _ hz)]
end Go.Proofs.YtgmeojpekdekeaaGreatDoor

namespace Go.Proofs.YtgmeojpekdekeaaGreatDoor
open Go Go.RowKit
set_option linter.unusedVariables false
set_option linter.unusedSimpArgs false
set_option maxRecDepth 100000
def atoiF (l : List UInt8) : Int := match Lib.atoiAll l with
  | .ok v => v
  | .range => Lib.atoiSat l
  | _ => 0
def intF (l : List UInt8) : Int := match Lib.parseIntB 64 l with
  | .ok v => v
  | .range => Lib.intSat 64 l
  | _ => 0
def uintF (l : List UInt8) : Nat := match Lib.parseUintB 64 l with
  | .ok v => v
  | .range => 18446744073709551615
  | _ => 0
theorem int_f {n : Int} (hn : -9223372036854775808 ≤ n ∧ n ≤ 9223372036854775807) : intF (Lib.itoa n) = n := by unfold intF; rw [int_itoa hn]
theorem atoi_f {n : Int} (hn : -9223372036854775808 ≤ n ∧ n ≤ 9223372036854775807) : atoiF (Lib.itoa n) = n := by unfold atoiF; rw [← Lib.parseIntB_64, int_itoa hn]
theorem uint_f {u : Nat} (hu : u ≤ 18446744073709551615) : uintF (Lib.decDigits u) = u := by
  unfold uintF
  obtain ⟨c, t, e, _, _⟩ := dd_head u
  have h : Lib.parseUintB 64 (Lib.decDigits u) = .ok u := by
    unfold Lib.parseUintB
    rw [if_neg (by rw [e]; simp)]
    exact pu_digits u hu
  rw [h]
/-! ### digits as bytes -/
def hexV (c : UInt8) : Option Nat := if 48 ≤ c.toNat ∧ c.toNat ≤ 57 then some (c.toNat - 48) else if 97 ≤ c.toNat ∧ c.toNat ≤ 102 then some (c.toNat - 87) else if 65 ≤ c.toNat ∧ c.toNat ≤ 70 then some (c.toNat - 55) else none
def hexP (a b : UInt8) : Option UInt8 := match hexV a, hexV b with
  | some x, some y => some (UInt8.ofNat (x * 16 + y))
  | _, _ => none
def unhL : List UInt8 → Option (List UInt8)
  | a :: b :: r => match hexP a b with
    | some c => (unhL r).map (c :: ·)
    | none => none
  | _ => some []
def unhF (s : ByteArray) : ByteArray := if s = { data := #[46] } then mtB else sb ((unhL (bs s)).getD [])
theorem hexV_D {n : Nat} (h : n < 16) : hexV (hexD n) = some n := by
  unfold hexD
  by_cases h1 : n < 10
  ·
   rw [if_pos h1]
   unfold hexV
   have e : (UInt8.ofNat (48 + n)).toNat = 48 + n := by rw [UInt8.toNat_ofNat']; omega
   rw [e, if_pos (by omega)]; congr 1; omega
  ·
   rw [if_neg h1]
   unfold hexV
   have e : (UInt8.ofNat (87 + n)).toNat = 87 + n := by rw [UInt8.toNat_ofNat']; omega
   rw [e, if_neg (by omega), if_pos (by omega)]; congr 1; omega
theorem hexP_D (b : UInt8) : hexP (hexD (b.toNat / 16)) (hexD (b.toNat % 16)) = some b := by
  have hb := b.toNat_lt
  unfold hexP
  rw [hexV_D (by omega), hexV_D (by omega)]
  simp only
  congr 1
  apply UInt8.toNat_inj.1
  rw [UInt8.toNat_ofNat']
  omega
theorem unh_hex : ∀ l : List UInt8, unhL (hexL l) = some l
  | [] => rfl
  | b :: l => by
    show unhL (hexD (b.toNat / 16) :: hexD (b.toNat % 16) :: hexL l) = _
    unfold unhL
    rw [hexP_D]
    simp only
    rw [unh_hex l]; rfl
theorem hexL_len : ∀ l : List UInt8, (hexL l).length = 2 * l.length
  | [] => rfl
  | b :: l => by
    show (hexD (b.toNat / 16) :: hexD (b.toNat % 16) :: hexL l).length = _
    simp only [List.length_cons, hexL_len l]; omega
theorem unh_f (s : ByteArray) : unhF (sb (hexB s)) = s := by
  unfold hexB
  by_cases h : s = mtB
  · rw [if_pos h, h]; rfl
  ·
   rw [if_neg h]
   unfold unhF
   rw [if_neg, bs_sb, unh_hex]
   ·
    show sb (bs s) = s
    rw [sb_bs]
   ·
    intro k
    have h2 := congrArg bs k
    rw [bs_sb] at h2
    have h3 := congrArg List.length h2
    rw [hexL_len] at h3
    have h4 : (bs ({ data := #[46] } : ByteArray)).length = 1 := rfl
    omega
/-! ### arguments -/
abbrev nullT : ByteArray := { data := #[110, 117, 108, 108] }
abbrev trueT : ByteArray := { data := #[116, 114, 117, 101] }
abbrev falseT : ByteArray := { data := #[102, 97, 108, 115, 101] }
def parA (s : ByteArray) : Va :=
  if s = nullT then ⟨0, 0, mtB, 0⟩ else if s = trueT then ⟨2, 1, mtB, 0⟩ else if s = falseT then ⟨2, 0, mtB, 0⟩ else if (bs s).head? = some 64 then ⟨4, 0, mtB, atoiF (bs s).tail⟩ else ⟨1, intF (bs s), mtB, 0⟩
theorem itoa_head {n : Int} : ∃ c t, Lib.itoa n = c :: t ∧ (c.toNat = 45 ∨ (48 ≤ c.toNat ∧ c.toNat ≤ 57)) := by
  unfold Lib.itoa
  by_cases h : n < 0
  · rw [if_pos h]; exact ⟨45, _, rfl, .inl rfl⟩
  ·
   rw [if_neg h]
   obtain ⟨c, t, e, h1, h2⟩ := dd_head n.toNat
   exact ⟨c, t, e, .inr ⟨h1, h2⟩⟩
theorem par_a {v : Va} (h : argP v) (hn : -9223372036854775808 ≤ v.n ∧ v.n ≤ 9223372036854775807) : parA (sb (valB v)) = v := by
  obtain ⟨so, n, s, r⟩ := v
  rcases h with ⟨h1, h2, h3, h4⟩ | ⟨h1, h3, h4⟩ | ⟨h1, h2, h3, h4⟩ | ⟨h1, h2, h3, h4, h5⟩
  ·
   simp only at h1 h2 h3 h4
   subst h1 h2 h3 h4
   rfl
  ·
   simp only at h1 h3 h4 hn
   subst h1 h3 h4
   have e : valB ⟨1, n, mtB, 0⟩ = Lib.itoa n := rfl
   rw [e]
   obtain ⟨c, t, e2, hc⟩ := itoa_head (n := n)
   have no : ∀ q : ByteArray, (∀ d u, bs q = d :: u → d.toNat ≠ 45 ∧ (d.toNat < 48 ∨ 57 < d.toNat)) → bs q ≠ [] → sb (Lib.itoa n) ≠ q := by
     intro q hq hq2 k
     have k2 := congrArg bs k
     rw [bs_sb, e2] at k2
     have := hq c t k2.symm
     omega
   unfold parA
   rw [if_neg (no _ (fun d u hd => by injection hd with hd; subst hd; decide) (by decide)), if_neg (no _ (fun d u hd => by injection hd with hd; subst hd; decide) (by decide)), if_neg (no _ (fun d u hd => by injection hd with hd; subst hd; decide) (by decide)), bs_sb, if_neg, int_f hn]
   rw [e2]
   intro k
   injection k with k
   subst k
   have h64 : (64 : UInt8).toNat = 64 := rfl
   omega
  ·
   simp only at h1 h2 h3 h4
   subst h1 h3 h4
   rcases h2 with rfl | rfl <;> rfl
  ·
   simp only at h1 h2 h3 h4 h5
   subst h1 h2 h3
   have e : valB ⟨4, 0, mtB, r⟩ = 64 :: Lib.itoa r := rfl
   rw [e]
   have no : ∀ q : ByteArray, (bs q).head? ≠ some 64 → sb (64 :: Lib.itoa r) ≠ q := by
     intro q hq k
     rw [← k, bs_sb] at hq
     exact hq rfl
   unfold parA
   rw [if_neg (no _ (by decide)), if_neg (no _ (by decide)), if_neg (no _ (by decide)), bs_sb, if_pos (show (64 :: Lib.itoa r).head? = some 64 from rfl)]
   show (⟨4, 0, mtB, atoiF (Lib.itoa r)⟩ : Va) = _
   rw [atoi_f (by omega)]
/-! ### a line -/
def Dd.zero (k : ByteArray) : Dd := ⟨k, 0, 0, mtB, [], 0, 0, 0, mtB, mtB⟩
def nxW (ws : List ByteArray) : ByteArray := ws.headD mtB
def stp (st : List ByteArray × Dd) (c : UInt8) : List ByteArray × Dd :=
  if c = 115 then (st.1.tail, { st.2 with side := atoiF (bs (nxW st.1)) })
  else if c = 111 then (st.1.tail, { st.2 with obj := uintF (bs (nxW st.1)) })
  else if c = 109 then (st.1.tail, { st.2 with method := nxW st.1 })
  else if c = 110 then (st.1.tail, { st.2 with n := atoiF (bs (nxW st.1)) })
  else if c = 116 then (st.1.tail, { st.2 with at' := atoiF (bs (nxW st.1)) })
  else if c = 114 then (st.1.tail, { st.2 with ref := atoiF (bs (nxW st.1)) })
  else if c = 99 then (st.1.tail, { st.2 with cls := nxW st.1 })
  else if c = 98 then (st.1.tail, { st.2 with bytes := unhF (nxW st.1) })
  else if c = 97 then (st.1.drop (9 - st.2.args.length), { st.2 with args := st.2.args ++ (st.1.take (9 - st.2.args.length)).map parA })
  else st
def splW (s : ByteArray) : List ByteArray := (Lib.split (bs s) [32]).map sb
def parD (s : ByteArray) : Dd := ((bs (hasF (nxW (splW s)))).foldl stp ((splW s).tail, Dd.zero (nxW (splW s)))).2
/-- Numbers of a deed are what their kinds bear. -/
def ranD (d : Dd) : Prop := d.obj ≤ 18446744073709551615 ∧ ∀ v ∈ d.args, -9223372036854775808 ≤ v.n ∧ v.n ≤ 9223372036854775807
/-- A byte that stands in a word. -/
def wb (c : UInt8) : Prop := c.toNat ≠ 32 ∧ c.toNat ≠ 10
theorem dd_wb (u : Nat) : ∀ c ∈ Lib.decDigits u, wb c := by
  induction u using Nat.strongRecOn with
  | ind u ih =>
    rw [Lib.decDigits]
    by_cases h : u < 10
    ·
     rw [dif_pos h]
     intro c hc
     rw [List.mem_singleton] at hc
     subst hc
     unfold wb
     rw [UInt8.toNat_ofNat']; omega
    ·
     rw [dif_neg h]
     intro c hc
     rcases List.mem_append.1 hc with hc | hc
     · exact ih (u / 10) (by omega) c hc
     ·
      rw [List.mem_singleton] at hc
      subst hc
      unfold wb
      rw [UInt8.toNat_ofNat']; omega
theorem itoa_wb (n : Int) : ∀ c ∈ Lib.itoa n, wb c := by
  unfold Lib.itoa
  split
  ·
   intro c hc
   rcases List.mem_cons.1 hc with rfl | hc
   · exact ⟨by decide, by decide⟩
   · exact dd_wb _ c hc
  · exact dd_wb _
theorem name_wb {s : ByteArray} (h : nameP s) : ∀ c ∈ bs s, wb c := by
  obtain ⟨_, h2, _, h4⟩ := h
  intro b hb
  obtain ⟨i, hi, rfl⟩ := List.mem_iff_getElem.1 hb
  have hi2 : i < s.size := by rw [bs_length] at hi; exact hi
  have h5 := h4 i hi2
  have e : bat s i = (bs s)[i]'hi := by show (bs s).getD i 0 = _; rw [List.getD_eq_getElem?_getD, List.getElem?_eq_getElem hi, Option.getD_some]
  rw [e] at h5
  unfold nameC greatC smallC digitC at h5
  unfold wb
  omega
theorem hexD_wb {n : Nat} (h : n < 16) : wb (hexD n) := by
  unfold hexD wb
  split <;> rw [UInt8.toNat_ofNat'] <;> omega
theorem hexB_wb (s : ByteArray) : ∀ c ∈ hexB s, wb c := by
  unfold hexB
  split
  ·
   intro c hc
   rw [List.mem_singleton] at hc
   subst hc
   exact ⟨by decide, by decide⟩
  ·
   intro c hc
   unfold hexL at hc
   obtain ⟨b, _, hc⟩ := List.mem_flatMap.1 hc
   have hb := b.toNat_lt
   simp at hc
   rcases hc with rfl | rfl
   · exact hexD_wb (by omega)
   · exact hexD_wb (by omega)
theorem valB_wb (v : Va) : ∀ c ∈ valB v, wb c := by
  have key : ∀ l : List UInt8, (l.all fun c => decide (c.toNat ≠ 32 ∧ c.toNat ≠ 10)) = true → ∀ c ∈ l, wb c := fun l h c hc => by
    have h2 : decide (c.toNat ≠ 32 ∧ c.toNat ≠ 10) = true := List.all_eq_true.1 h c hc
    show c.toNat ≠ 32 ∧ c.toNat ≠ 10
    exact of_decide_eq_true h2
  unfold valB
  split
  · exact itoa_wb _
  ·
   split
   ·
    split
    · exact key _ (by decide)
    · exact key _ (by decide)
   ·
    split
    ·
     intro c hc
     rcases List.mem_cons.1 hc with rfl | hc
     · exact ⟨by decide, by decide⟩
     · exact hexB_wb _ c hc
    ·
     split
     ·
      intro c hc
      rcases List.mem_cons.1 hc with rfl | hc
      · exact ⟨by decide, by decide⟩
      · exact itoa_wb _ c hc
     · exact key _ (by decide)
theorem letB_wb {d : Dd} (h : chkD d) {c : UInt8} (hc : hasC d.kind c) : ∀ l ∈ letB d c, ∀ b ∈ l, wb b := by
  unfold letB
  intro l hl
  by_cases h1 : c = 115
  · rw [if_pos h1, List.mem_singleton] at hl; subst hl; exact itoa_wb _
  rw [if_neg h1] at hl
  by_cases h2 : c = 111
  · rw [if_pos h2, List.mem_singleton] at hl; subst hl; exact dd_wb _
  rw [if_neg h2] at hl
  by_cases h3 : c = 109
  · rw [if_pos h3, List.mem_singleton] at hl; subst hl; subst h3; exact name_wb (h.m1 hc).1
  rw [if_neg h3] at hl
  by_cases h4 : c = 110
  · rw [if_pos h4, List.mem_singleton] at hl; subst hl; exact itoa_wb _
  rw [if_neg h4] at hl
  by_cases h5 : c = 116
  · rw [if_pos h5, List.mem_singleton] at hl; subst hl; exact itoa_wb _
  rw [if_neg h5] at hl
  by_cases h6 : c = 114
  · rw [if_pos h6, List.mem_singleton] at hl; subst hl; exact itoa_wb _
  rw [if_neg h6] at hl
  by_cases h7 : c = 99
  · rw [if_pos h7, List.mem_singleton] at hl; subst hl; subst h7; exact name_wb (h.c1 hc).1
  rw [if_neg h7] at hl
  by_cases h8 : c = 98
  · rw [if_pos h8, List.mem_singleton] at hl; subst hl; exact hexB_wb _
  rw [if_neg h8] at hl
  by_cases h9 : c = 97
  ·
   rw [if_pos h9] at hl
   obtain ⟨v, _, rfl⟩ := List.mem_map.1 hl
   exact valB_wb v
  rw [if_neg h9] at hl
  cases hl
/-- The kinds, one by one. -/
theorem kinds {k : ByteArray} (h : (hasO k).isSome = true) : ∃ e ∈ entT, k = e.1 := by
  unfold hasO at h
  cases hf : entT.find? fun e => decide (e.1 = k) with
  | none => rw [hf] at h; cases h
  | some e =>
    have h1 := List.find?_some hf
    exact ⟨e, List.mem_of_find?_eq_some hf, (of_decide_eq_true h1).symm⟩
end Go.Proofs.YtgmeojpekdekeaaGreatDoor

namespace Go.Proofs.YtgmeojpekdekeaaGreatDoor
open Go Go.RowKit Go.MapKept
set_option linter.unusedVariables false
set_option linter.unusedSimpArgs false
/-! ### a struct stored into a row of one's own -/
def sets : List Value → Nat → List Value → List Value
  | xs, _, [] => xs
  | xs, i, u :: us => sets (xs.set i u) (i + 1) us
section
variable {P : Program} {k : Nat} {ops : Array Oper} {rest : List Oper} {N : Cn} {w : World} {f : Fr} {ty : TypeId} {pos : String} {af : Array Edge} {g : Option (Nat × Bool)} {v : Value} {n sz e base : Nat} {xs : List Value}
end
end Go.Proofs.YtgmeojpekdekeaaGreatDoor

namespace Go.Proofs.YtgmeojpekdekeaaGreatDoor
open Go Go.RowKit Go.Lib
set_option linter.unusedVariables false
set_option linter.unusedSimpArgs false
section
variable {P : Program} {w : World} {f : Fr} {ty : TypeId} {pos : String} {af : Array Edge} {g : Option (Nat × Bool)} {v : Value} {n : Nat} {xs : List Value}
variable {d k : Nat} {ops : Array Oper} {rest : List Oper} {N : Cn}
end
/-- Parts of any size laid at their places. -/
def putN (pl : List (Nat × Nat)) : List (Nat × Value) → List Value → Option (List Value)
  | [], cs => some cs
  | (i, v) :: r, cs => match pl[i]? with
    | some (o, m) => if v.cells.size = m then (if o + m ≤ cs.length then putN pl r (cs.take o ++ v.cells.toList ++ cs.drop (o + m)) else none) else none
    | none => none
end Go.Proofs.YtgmeojpekdekeaaGreatDoor

namespace Go.Proofs.YtgmeojpekdekeaaGreatDoor
open Go Go.RowKit Go.Lib
set_option linter.unusedVariables false
set_option linter.unusedSimpArgs false
section
variable {P : Program} {w : World} {f : Fr} {dst : Option Tmp} {ty : TypeId} {pos : String} {af : Array Edge} {g : Option (Nat × Bool)}
/-- A place of a package-level variable is read. -/
theorem r_loadG {x : Operand} {t : TypeId} {b i : Nat} {v : Value} (ht : flat P t = true) (hx : ev f x = .pointer (some ⟨b, i, none⟩)) (hv : w.cell? ⟨b, i, none⟩ = some v) : (execOp (ev f) ⟨dst, .load t x, ty, pos, af, g⟩).run P w = .ok (.value v) w := r_load ht hx hv
theorem r_sliceG {x : Operand} {t e : TypeId} {n sz b : Nat} (hu : P.underlying t = some (.array n e)) (hz : (P.info? e).map (·.size) = some sz) (hx : ev f x = .pointer (some ⟨b, 0, none⟩)) :
    (execOp (ev f) ⟨dst, .slice t x none none none, ty, pos, af, g⟩).run P w = .ok (.value (.slice (some ⟨b, 0, none⟩) n n)) w := by
  obtain ⟨inf, hi1, hi2⟩ := Option.map_eq_some_iff.1 hz
  have he : P.elem t = e := by simp [Program.elem, hu]
  have hl : P.arrayLen t = n := by simp [Program.arrayLen, hu]
  simp [execOp, hx, run_sliceAt_array_all (ht := (by rw [he, hl]; exact hu : P.underlying t = some (.array (P.arrayLen t) (P.elem t)))), hl, he, sizeOf, typeInfo, hi1, hi2, slicedAt, sliced, add_lit]
theorem r_sliceAh {x z : Operand} {t e : TypeId} {n sz b m : Nat} (hu : P.underlying t = some (.array n e)) (hz : (P.info? e).map (·.size) = some sz) (hx : ev f x = .pointer (some ⟨b, 0, none⟩)) (hz2 : ev f z = .int .i64 (m : Int)) (hm : m ≤ n) :
    (execOp (ev f) ⟨dst, .slice t x none (some z) none, ty, pos, af, g⟩).run P w = .ok (.value (.slice (some ⟨b, 0, none⟩) m n)) w := by
  obtain ⟨inf, hi1, hi2⟩ := Option.map_eq_some_iff.1 hz
  have he : P.elem t = e := by simp [Program.elem, hu]
  have hl : P.arrayLen t = n := by simp [Program.arrayLen, hu]
  simp [execOp, hx, hz2, run_sliceAt_array_h w t ⟨b, 0, none⟩ (by rw [he, hl]; exact hu) .i64 (m : Int) (by omega) (by rw [hl]; omega), hl, he, sizeOf, typeInfo, hi1, hi2, slicedAt, add_lit]
end
section
variable {P : Program} {w : World} {f : Fr} {n d : Nat} {ops : Array Oper} {rest : List Oper} {N : Cn}
/-- A new block, and that nothing in it is marked. -/
theorem L_newx {o : Oper} {cs : Array Value} {t : TypeId} (hw : Wants ops f o) (hd : o.dst = some d) (hn : Nat.blt d n = true) (hr : (execOp (ev f) o).run P w = .ok (.value (.pointer (some ⟨w.heap.size, 0, none⟩))) (w.alloc (.cells cs t)))
    (h : ∀ w1 b, Bk w1 b cs t → b = w.heap.size → w1.heap.size = b + 1 → Nw w w1 → w1.heap[b]? = some (.cells cs t (0, 0)) → Wl P n ops rest N (upd f d (.pointer (some ⟨b, 0, none⟩))) w1) : Wl P n ops (o :: rest) N f w :=
  L_run hw hd hn hr (h _ _ (Bk.new w _ _) rfl (by simp) (Ch.alloc w _) (heap_alloc_new w _))
end
end Go.Proofs.YtgmeojpekdekeaaGreatDoor

namespace Go.Proofs.YtgmeojpekdekeaaGreatDoor
open Go Go.RowKit Go.Lib
set_option linter.unusedVariables false
set_option linter.unusedSimpArgs false
/-- A function that may be called. -/
def Knows (P : Program) (fid : FuncId) : Prop := ∃ fn bd, P.funcs[fid]? = some fn ∧ (fn.name == "runtime.NumGoroutine") = false ∧ fn.body = some bd
section
variable {P : Program} {w : World} {f : Fr} {dst : Option Tmp} {ty : TypeId} {pos : String} {af : Array Edge} {g : Option (Nat × Bool)}
theorem r_callv {c : Operand} {args : Array Operand} {ts : Array TypeId} {fid : FuncId} {cap l : List Value} (hk : Knows P fid) (hc : ev f c = .func (.func fid) #[] cap.toArray) (ha : args.toList.map (ev f) ++ cap = l) :
    (execOp (ev f) ⟨dst, .call { callee := .value c, args := args, argTypes := ts }, ty, pos, af, g⟩).run P w = .ok (.enter fid l.toArray) w := by
  obtain ⟨fn, bd, h1, h2, h3⟩ := hk
  exact r_call h1 h2 h3 hc (by simpa using ha)
end
section
open Go.MapKept
variable {K V : Type} [DecidableEq K] {ke : K → Value} {ve : V → Value}
variable {P : Program} {n : Nat} {ops : Array Oper} {rest : List Oper} {N : Cn} {w : World} {f : Fr} {ty : TypeId} {pos : String} {af : Array Edge} {g : Option (Nat × Bool)} {b : Nat} {L : List (K × V)}
/-- A pair of a map's literal. -/
theorem L_mapins {x y z : Operand} {t kt e : TypeId} {kd : TypeDesc} (k : K) (v : V) (hu : P.underlying t = some (.map kt e)) (hd : P.underlying kt = some kd) (hk : ∀ k, IsKey kd (ke k)) (hi : ∀ a b, ke a = ke b → a = b)
    (hw : Wants ops f ⟨none, .insert t x y z, ty, pos, af, g⟩) (hx : ev f x = .map (some b)) (hy : ev f y = ke k) (hz : ev f z = ve v) (h : Mp ke ve w b L)
    (hc : ∀ w1, Mp ke ve w1 b (mset L k v) → w1.heap.size = w.heap.size → Ch (fun j => j = b) w w1 → Wl P n ops rest N f w1) : Wl P n ops (⟨none, .insert t x y z, ty, pos, af, g⟩ :: rest) N f w := by
  obtain ⟨w1, h1, h2, h3, h4⟩ := run_mapset k v hu hd hk hi h
  exact L_do hw rfl (by simp [execOp, hx, hy, hz, h1]) (hc w1 h2 h3 h4)
end
end Go.Proofs.YtgmeojpekdekeaaGreatDoor

namespace Go.Proofs.YtgmeojpekdekeaaGreatDoor
open Go Go.RowKit
set_option linter.unusedVariables false
set_option linter.unusedSimpArgs false
set_option maxRecDepth 100000
theorem class_iff {s : ByteArray} (h : nameP s) : ((bat s 0).toNat : Int) ≤ 90 ↔ classP s := by
  obtain ⟨h1, h2, h3, h4⟩ := id h
  have h5 := h4 0 h1
  unfold nameC greatC smallC digitC at h5
  unfold digitC at h3
  unfold classP greatC
  exact ⟨fun h6 => ⟨h, by omega⟩, fun h6 => by omega⟩
theorem rclass_walk (s : ByteArray) (w0 : World) (hs : s.size ≤ 1000000000000000) : Does Tryz.prog 33 #[.string s] w0 (fun r w' => r = .bool (decide (classP s)) ∧ Nw w0 w') := by
  refine fn_of (n := 10) (args := [.string s]) Tryz.func33 rfl rfl rfl (W_seq (W_region (L_r (r_ab rfl) (L_nil (W_seq (W_region (L_r (r_ms rfl) ?_)))))))
  refine L_call (.plain rfl) rfl rfl (r_call Tryz.func65 rfl rfl rfl (by rfl)) (rname_walk s _ hs) ?_
  rintro v4 w1 ⟨rfl, c1⟩
  have hz1 := c1.size
  refine L_r (r_mb rfl) ?_
  refine L_caseb (d := 5) rfl (fun h5 => ?_) (fun h5 => ?_)
  ·
   have hnp := of_decide_eq_true h5
   have hsp := hnp.1
   refine L_g (r_ms rfl) ?_
   refine L_g (r_indexs Tryz.underlying9 rfl rfl (by omega) (by omega) (by conv => lhs; (try simp only [Nat.mul_one, Nat.zero_add, Int.toNat_natCast, Int.toNat_zero, Int.reduceToNat, Nat.reduceMul, Nat.reduceAdd]))) ?_
   refine L_g (r_leq rfl rfl) (L_r (r_pt rfl rfl) (L_r (r_ab rfl) (L_nil (W_ret ?_))))
   refine ret1 (v := .bool _) rfl rfl ?_
   refine ⟨?_, Ch.au⟩
   first
   | exact congrArg Value.bool (decide_eq_decide.2 (class_iff hnp))
   | exact congrArg Value.bool (decide_eq_false (fun hp => hnp hp.1)).symm
  ·
   have hnp := of_decide_eq_false h5
   refine L_ps (L_ps (L_ps (L_r (r_pf rfl rfl) (L_r (r_ab rfl) (L_nil (W_ret ?_))))))
   refine ret1 (v := .bool _) rfl rfl ?_
   refine ⟨?_, Ch.au⟩
   first
   | exact congrArg Value.bool (decide_eq_decide.2 (class_iff hnp))
   | exact congrArg Value.bool (decide_eq_false (fun hp => hnp hp.1)).symm
theorem rmem_use (s : ByteArray) (w0 : World) (hs : s.size ≤ 1000000000000000) : Does Tryz.prog 32 #[.string s] w0 (fun r w' => r = .bool (decide (memP s)) ∧ Nw w0 w') :=
  (rmember_walk s w0 hs).mono (by rintro r w' ⟨rfl, c⟩; exact ⟨congrArg Value.bool (decide_eq_decide.2 (memP_iff s).symm), c⟩)
end Go.Proofs.YtgmeojpekdekeaaGreatDoor
