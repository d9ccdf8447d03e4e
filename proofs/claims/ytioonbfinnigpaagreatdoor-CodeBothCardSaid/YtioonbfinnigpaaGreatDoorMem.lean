/- Slices: what they read, places in them, appending, bytes and strings; over any program. -/
import Derived.Test.YtioonbfinnigpaaGreatDoorDraw
import Derived.Lib.ConvBytes
import Derived.Laws.BytesArg
namespace Go.Proofs.YtioonbfinnigpaaGreatDoor
open Go Go.RowKit
set_option linter.unusedVariables false
set_option linter.unusedSimpArgs false
/-- A slice of n elements of sz cells each holds these cells. -/
def Sl (w : World) (v : Value) (sz n : Nat) (xs : List Value) : Prop :=
  xs.length = n * sz ∧ ((v = .slice none 0 0 ∧ n = 0) ∨ ∃ b o c cs t, v = .slice (some ⟨b, o, none⟩) n c ∧ n ≤ c ∧ Rk w b cs t ∧ ∀ i x, xs[i]? = some x → cs[o + i]? = some x)
def at_ : Value → Nat → Addr
  | .slice (some a) _ _, i => ⟨a.block, a.off + i, none⟩
  | _, i => ⟨0, i, none⟩
theorem at_add (v : Value) (i m : Nat) : (at_ v i).add m = at_ v (i + m) := by
  unfold at_
  split <;> rw [add_lit] <;> simp [Nat.add_assoc]
section
variable {w w' : World} {v : Value} {sz n : Nat} {xs : List Value}
theorem Sl.ch {S : Nat → Prop} (c : Ch S w w') (hS : ∀ b, v.ownBlock = some b → ¬ S b) (h : Sl w v sz n xs) : Sl w' v sz n xs := by
  obtain ⟨h0, h | ⟨b, o, cp, cs, t, rfl, h1, h2, h3⟩⟩ := h
  · exact ⟨h0, .inl h⟩
  · exact ⟨h0, .inr ⟨b, o, cp, cs, t, rfl, h1, h2.ch c (hS b rfl), h3⟩⟩
theorem Sl.nw (c : Nw w w') (h : Sl w v sz n xs) : Sl w' v sz n xs := h.ch c fun _ _ => not_no
theorem Sl.len (h : Sl w v sz n xs) : ∃ A c, v = .slice A n c ∧ n ≤ c := by
  obtain ⟨h0, ⟨rfl, rfl⟩ | ⟨b, o, cp, cs, t, rfl, h1, h2, h3⟩⟩ := h
  · exact ⟨_, _, rfl, Nat.le_refl _⟩
  · exact ⟨_, _, rfl, h1⟩
theorem Sl.lt (h : Sl w v sz n xs) {b : Nat} (hb : v.ownBlock = some b) : b < w.heap.size := by
  obtain ⟨h0, ⟨rfl, rfl⟩ | ⟨b', o, cp, cs, t, rfl, h1, h2, h3⟩⟩ := h
  · cases hb
  · injection hb with hb; subst hb; exact h2.lt
theorem Sl.to (h : Sl w v sz n xs) (c : ∀ i, v.ownBlock = some i → Sm w w' i) : Sl w' v sz n xs := by
  obtain ⟨h0, h | ⟨b, o, cp, cs, t, rfl, h1, h2, h3⟩⟩ := h
  · exact ⟨h0, .inl h⟩
  · exact ⟨h0, .inr ⟨b, o, cp, cs, t, rfl, h1, h2.to (c b rfl), h3⟩⟩
theorem Sl.nil (w : World) (sz : Nat) : Sl w (.slice none 0 0) sz 0 [] := ⟨by simp, .inl ⟨rfl, rfl⟩⟩
theorem Sl.cell (h : Sl w v sz n xs) {i : Nat} {u : Value} (hu : xs[i]? = some u) : w.cell? (at_ v i) = some u := by
  obtain ⟨h0, ⟨rfl, rfl⟩ | ⟨b', o, cp, cs, t, rfl, h1, h2, h3⟩⟩ := h
  · have : xs = [] := List.eq_nil_of_length_eq_zero (by simpa using h0)
    subst this; simp at hu
  · exact (h2.cell).trans (h3 i u hu)
theorem Sl.own {base e : Nat} (h : w.ownsRow base e sz v n xs) : Sl w v sz n xs := by
  obtain ⟨h0, h | ⟨g, cp, cur, rfl, h1, h2, h3, h4, h5, h6⟩⟩ := h
  · exact ⟨h0, .inl h⟩
  · refine ⟨h0, .inr ⟨g, 0, cp, cur, e, rfl, h3, ⟨_, h2⟩, fun i x hx => ?_⟩⟩
    have hi : i < n * sz := by rw [← h0]; exact (List.getElem?_eq_some_iff.1 hx).1
    rw [← h6, List.getElem?_take_of_lt hi] at hx
    simpa using hx
end
section
variable {P : Program} {w : World} {f : Fr} {dst : Option Tmp} {ty : TypeId} {pos : String} {af : Array Edge} {g : Option (Nat × Bool)} {v : Value} {sz n : Nat} {xs : List Value}
theorem r_lenSl {x : Operand} {t e : TypeId} (hu : P.underlying t = some (.slice e)) (hx : ev f x = v) (h : Sl w v sz n xs) : (execOp (ev f) ⟨dst, .call { callee := .builtin .len, args := #[x], argTypes := #[t] }, ty, pos, af, g⟩).run P w = .ok (.value (.int .i64 n)) w := by
  obtain ⟨A, c, rfl, _⟩ := h.len
  exact r_len hu hx
theorem r_idxSl {x y : Operand} {t e : TypeId} {k : IntKind} {i : Int} (hu : P.underlying t = some (.slice e)) (hz : (P.info? e).map (·.size) = some sz) (hx : ev f x = v) (hy : ev f y = .int k i) (h : Sl w v sz n xs) (h0 : 0 ≤ i) (h1 : i < n) {j : Nat} (hj : i.toNat * sz = j) :
    (execOp (ev f) ⟨dst, .indexAddr t x y, ty, pos, af, g⟩).run P w = .ok (.value (.pointer (some (at_ v j)))) w := by
  subst hj
  obtain ⟨inf, hi1, hi2⟩ := Option.map_eq_some_iff.1 hz
  have he : P.elem t = e := by simp [Program.elem, hu]
  obtain ⟨_, ⟨rfl, rfl⟩ | ⟨b', o, cp, cs, t', rfl, h1', h2, h3⟩⟩ := h
  · omega
  · simp [execOp, hx, hy, run_indexAt_slice w t _ n cp k i (by rw [he]; exact hu), he, h0, h1, sizeOf, typeInfo, hi1, hi2, add_lit, at_]
theorem r_loadSl {x : Operand} {t : TypeId} {i : Nat} {u : Value} (ht : flat P t = true) (hx : ev f x = .pointer (some (at_ v i))) (h : Sl w v sz n xs) (hv : xs[i]? = some u) : (execOp (ev f) ⟨dst, .load t x, ty, pos, af, g⟩).run P w = .ok (.value u) w :=
  r_load ht hx (h.cell hv)
theorem r_loadSlrow {x : Operand} {t : TypeId} {i m : Nat} {us : List Value} {dd : TypeDesc} (hu : P.underlying t = some dd) (hd : (match dd with | .struct _ | .array _ _ => true | _ => false) = true) (hi : (P.info? t).map (·.size) = some m) (hm : us.length = m)
    (hx : ev f x = .pointer (some (at_ v i))) (h : Sl w v sz n xs) (hv : ∀ j u, us[j]? = some u → xs[i + j]? = some u) : (execOp (ev f) ⟨dst, .load t x, ty, pos, af, g⟩).run P w = .ok (.value (.agg us.toArray)) w := by
  have hl : (loadCells (at_ v i) m).run P w = .ok us.toArray w := by
    rw [← hm]
    exact run_loadCells_list w (at_ v i) us (fun j u hj => by rw [at_add]; exact h.cell (hv j u hj))
  have hagg : (isAgg t).run P w = .ok true w := by
    unfold isAgg
    rw [Sem.run_bind, run_underlying hu w]
    cases dd <;> simp_all
  obtain ⟨inf, hi1, hi2⟩ := Option.map_eq_some_iff.1 hi
  simp [execOp, hx, Instr.loadAt, Instr.sureAddr, loadVar, Sem.run_bind, hagg, sizeOf, typeInfo, hi1, hi2, hl]
/-- A field's place. -/
theorem r_field {x : Operand} {s : TypeId} {fs : Array Field} {fd : Field} {i sz : Nat} {a : Addr} (hu : P.underlying s = some (.struct fs)) (hf : fs[i]? = some fd) (hz : (P.info? fd.type).map (·.size) = some sz) (h0 : Nat.ble 1 sz = true) (hx : ev f x = .pointer (some a)) :
    (execOp (ev f) ⟨dst, .fieldAddr s x i, ty, pos, af, g⟩).run P w = .ok (.value (.pointer (some (a.add fd.offset)))) w := by
  obtain ⟨inf, hi1, hi2⟩ := Option.map_eq_some_iff.1 hz
  have hne : sz ≠ 0 := by have := Nat.le_of_ble_eq_true h0; omega
  simp [execOp, hx, Instr.fieldAt, run_underlying hu, hf, Instr.sureAddr, fieldPlace, sizeOf, typeInfo, hi1, hi2, hne]
theorem r_fieldb {x : Operand} {s : TypeId} {fs : Array Field} {fd : Field} {i sz b o m : Nat} (hu : P.underlying s = some (.struct fs)) (hf : fs[i]? = some fd) (hz : (P.info? fd.type).map (·.size) = some sz) (h0 : Nat.ble 1 sz = true) (hx : ev f x = .pointer (some ⟨b, o, none⟩)) (hm : o + fd.offset = m) :
    (execOp (ev f) ⟨dst, .fieldAddr s x i, ty, pos, af, g⟩).run P w = .ok (.value (.pointer (some ⟨b, m, none⟩))) w := by
  rw [r_field hu hf hz h0 hx, add_lit, hm]
theorem r_fieldSl {x : Operand} {s : TypeId} {fs : Array Field} {fd : Field} {i sz j o m : Nat} (hu : P.underlying s = some (.struct fs)) (hf : fs[i]? = some fd) (hz : (P.info? fd.type).map (·.size) = some sz) (h0 : Nat.ble 1 sz = true) (ho : fd.offset = o) (hm : j + o = m) (hx : ev f x = .pointer (some (at_ v j))) :
    (execOp (ev f) ⟨dst, .fieldAddr s x i, ty, pos, af, g⟩).run P w = .ok (.value (.pointer (some (at_ v m)))) w := by
  rw [r_field hu hf hz h0 hx, at_add, ho, hm]
end
/-! bytes -/
def b8 (x : UInt8) : Value := .int .u8 (x.toNat : Int)
abbrev By (w : World) (v : Value) (l : List UInt8) : Prop := Sl w v 1 l.length (l.map b8)
theorem bs_sb (l : List UInt8) : bs (sb l) = l := by simp [bs, sb]
theorem sb_bs (s : ByteArray) : sb (bs s) = s := by simp [bs, sb]
theorem bs_length (s : ByteArray) : (bs s).length = s.size := by simp [bs]
theorem sb_size (l : List UInt8) : (sb l).size = l.length := rfl
theorem sb_inj {a b : List UInt8} : sb a = sb b ↔ a = b := ⟨fun h => by rw [← bs_sb a, h, bs_sb], fun h => by rw [h]⟩
theorem bs_inj {a b : ByteArray} : bs a = bs b ↔ a = b := ⟨fun h => by rw [← sb_bs a, h, sb_bs], fun h => by rw [h]⟩
theorem bs_append (a b : ByteArray) : bs (a ++ b) = bs a ++ bs b := by simp [bs]
theorem sb_append (a b : List UInt8) : sb (a ++ b) = sb a ++ sb b := by rw [← bs_inj, bs_append, bs_sb, bs_sb, bs_sb]
theorem map_b8 (l : List UInt8) (i : Nat) (h : i < l.length) : (l.map b8)[i]? = some (b8 (l.getD i 0)) := by
  simp [List.getD, h]
theorem b8_oneCell (l : List UInt8) : ∀ u ∈ l.map b8, u.oneCell' = true := by
  intro u hu
  obtain ⟨x, _, rfl⟩ := List.mem_map.1 hu
  rfl
theorem strOfNums_b8 (l : List UInt8) : strOfNums (l.map fun x => (x.toNat : Int)) = sb l := by
  unfold strOfNums sb
  congr 1
  rw [List.map_map]
  congr 1
  apply List.ext_getElem
  · simp
  · intro i _ _; simp
section
variable {P : Program} {w : World} {f : Fr} {dst : Option Tmp} {ty : TypeId} {pos : String} {af : Array Edge} {g : Option (Nat × Bool)} {v : Value}
theorem r_bstr {x : Operand} {src d e : TypeId} {l : List UInt8} (hs : P.underlying src = some (.slice e)) (he : P.underlying e = some (.int .u8)) (hd : P.underlying d = some .string) (hx : ev f x = v) (h : By w v l) :
    (execOp (ev f) ⟨dst, .convert src d x, ty, pos, af, g⟩).run P w = .ok (.value (.string (sb l))) w := by
  have : (convert src d v).run P w = .ok (.string (sb l)) w := by
    obtain ⟨h0, ⟨rfl, h1⟩ | ⟨b, o, c, cs, t, rfl, h1, h2, h3⟩⟩ := h
    · have : l = [] := List.eq_nil_of_length_eq_zero h1
      subst this
      rw [run_convert_bytes_nil w src e hs he 0 0 d hd]; rfl
    · rw [run_convert_bytes_arg w src e hs he b o l.length c (l.map fun x => (x.toNat : Int)) (by simp) (fun i hi => by
        rw [h2.cell]
        exact h3 i _ (by simp [b8, List.getD, hi])) d hd, strOfNums_b8]
  simp [execOp, hx, this]
/-- Bytes of a string: a new block. -/
theorem r_sbytes {x : Operand} {src d e : TypeId} {s : ByteArray} (hs : P.underlying src = some .string) (hd : P.underlying d = some (.slice e)) (he : P.underlying e = some (.int .u8)) (hx : ev f x = .string s) (hl : s.size ≤ 9223372036854775807) :
    ∃ v w', (execOp (ev f) ⟨dst, .convert src d x, ty, pos, af, g⟩).run P w = .ok (.value v) w' ∧ By w' v (bs s) ∧ Nw w w' ∧ v.ownBlock = some w.heap.size ∧ w'.heap.size = w.heap.size + 1 ∧
      (∃ c cs t, v = .slice (some ⟨w.heap.size, 0, none⟩) s.size c ∧ s.size ≤ c ∧ Bk w' w.heap.size cs t ∧ s.size ≤ cs.size ∧ cs.toList.take s.size = (bs s).map b8) := by
  refine ⟨.slice (some ⟨w.heap.size, 0, none⟩) s.size (grownCap w s.size 0 e), Lib.bytesWorld w e s, ?_, ?_, ?_, rfl, Lib.bytesWorld_size w e s, _, _, e, rfl, ?_, ⟨_, Lib.bytesWorld_at_new w e s, .inr (Nat.le_refl _)⟩, ?_, ?_⟩
  · simp only [execOp, hx, Lib.run_convert_string_bytes w src d e s hs hd he, Sem.run_bind, Result.andThen_ok]; rfl
  · have hc : s.size ≤ grownCap w s.size 0 e := by
      unfold grownCap Question.cut
      simp only
      omega
    refine ⟨by simp, .inr ⟨w.heap.size, 0, _, _, e, by rw [bs_length], by rw [bs_length]; exact hc, ⟨_, Lib.bytesWorld_at_new w e s⟩, fun i x hx => ?_⟩⟩
    have hi : i < s.size := by
      have := (List.getElem?_eq_some_iff.1 hx).1
      simpa [bs_length] using this
    have hi2 : i < s.data.size := hi
    rw [List.getElem?_map] at hx
    simp only [bs, Array.getElem?_toList, Array.getElem?_eq_getElem hi2, Option.map_some] at hx
    simp [Lib.bytesCells, Array.getElem?_append, hi, Array.getElem?_eq_getElem hi2, ← hx, b8]
  · exact ⟨rfl, rfl, rfl, by rw [Lib.bytesWorld_size]; omega, fun i hi _ => Lib.bytesWorld_at_old w e s i hi⟩
  · unfold grownCap Question.cut
    simp only
    omega
  · simp [Lib.bytesCells]
  · have hsz : s.size = ((s.data.map fun b => Value.int .u8 b.toNat)).toList.length := by simp
    unfold Lib.bytesCells
    rw [Array.toList_append, hsz, List.take_left]
    simp [bs]
    intro a _; rfl
variable {n d : Nat} {ops : Array Oper} {rest : List Oper} {N : Cn}
theorem L_sbytes {x : Operand} {src dt e : TypeId} {s : ByteArray} (hs : P.underlying src = some .string) (hd : P.underlying dt = some (.slice e)) (he : P.underlying e = some (.int .u8)) (hl : s.size ≤ 9223372036854775807)
    (hw : Wants ops f ⟨some d, .convert src dt x, ty, pos, af, g⟩) (hn : Nat.blt d n = true) (hx : ev f x = .string s)
    (h : ∀ v w1, By w1 v (bs s) → Nw w w1 → v.ownBlock = some w.heap.size → w1.heap.size = w.heap.size + 1 → Wl P n ops rest N (upd f d v) w1) : Wl P n ops (⟨some d, .convert src dt x, ty, pos, af, g⟩ :: rest) N f w := by
  obtain ⟨v, w', h1, h2, h3, h4, h5, h6⟩ := r_sbytes (P := P) (w := w) (ty := ty) (pos := pos) (af := af) (g := g) (dst := some d) hs hd he hx hl
  exact L_run hw rfl hn h1 (h v w' h2 h3 h4 h5)
theorem bs_length' (s : ByteArray) : (bs s).length = s.size := by simp [bs]
/-- The same, for bytes that will be written. -/
theorem L_mbytes {x : Operand} {src dt e : TypeId} {s : ByteArray} (hs : P.underlying src = some .string) (hd : P.underlying dt = some (.slice e)) (he : P.underlying e = some (.int .u8)) (hl : s.size ≤ 9223372036854775807)
    (hw : Wants ops f ⟨some d, .convert src dt x, ty, pos, af, g⟩) (hn : Nat.blt d n = true) (hx : ev f x = .string s)
    (h : ∀ v w1 b, (∃ c cs t, v = .slice (some ⟨b, 0, none⟩) s.size c ∧ s.size ≤ c ∧ Bk w1 b cs t ∧ s.size ≤ cs.size ∧ cs.toList.take s.size = (bs s).map b8) → Nw w w1 → b = w.heap.size → w1.heap.size = w.heap.size + 1 → Wl P n ops rest N (upd f d v) w1) : Wl P n ops (⟨some d, .convert src dt x, ty, pos, af, g⟩ :: rest) N f w := by
  obtain ⟨v, w', h1, h2, h3, h4, h5, h6⟩ := r_sbytes (P := P) (w := w) (ty := ty) (pos := pos) (af := af) (g := g) (dst := some d) hs hd he hx hl
  exact L_run hw rfl hn h1 (h v w' _ h6 h3 rfl h5)
variable {X : Nat → Cn} {R : Cn} {S : World → Prop} {fuel i : Nat} {listed : Array Bool}
end
/-! rows of one's own -/
section
variable {w w' : World} {base e sz n : Nat} {v : Value} {xs : List Value}
theorem own_base (h : w.ownsRow base e sz v n xs) {k : Nat} (hk : v.ownBlock = some k) : base ≤ k := by
  obtain ⟨_, ⟨rfl, _⟩ | ⟨g, cp, cur, rfl, h1, _⟩⟩ := h
  · cases hk
  · injection hk with hk; subst hk; exact h1
theorem own_mono {b : Nat} (h : w.ownsRow base e sz v n xs) (hb : b ≤ base) : w.ownsRow b e sz v n xs := by
  obtain ⟨h0, h | ⟨g, cp, cur, rfl, h1, h2⟩⟩ := h
  · exact ⟨h0, .inl h⟩
  · exact ⟨h0, .inr ⟨g, cp, cur, rfl, Nat.le_trans hb h1, h2⟩⟩
theorem own_lt (h : w.ownsRow base e sz v n xs) {k : Nat} (hk : v.ownBlock = some k) : k < w.heap.size := (Sl.own h).lt hk
theorem Own.to (h : w.ownsRow base e sz v n xs) (c : ∀ i, v.ownBlock = some i → Sm w w' i) : w'.ownsRow base e sz v n xs := by
  obtain ⟨h0, h | ⟨g, cp, cur, rfl, h1, h2, h3⟩⟩ := h
  · exact ⟨h0, .inl h⟩
  · exact ⟨h0, .inr ⟨g, cp, cur, rfl, h1, ((c g rfl).2 (lt_of_block h2)).trans h2, h3⟩⟩
theorem Own.nil (w : World) (base e sz : Nat) : w.ownsRow base e sz (.slice none 0 0) 0 [] := ⟨by simp, .inl ⟨rfl, rfl⟩⟩
theorem Own.set (h : w.ownsRow base e sz v n xs) {i : Nat} (hi : i < xs.length) (u : Value) : (w.setCell (at_ v i) u).ownsRow base e sz v n (xs.set i u) := by
  obtain ⟨h0, ⟨rfl, rfl⟩ | ⟨g, cp, cur, rfl, h1, h2, h3, h4, h5, h6⟩⟩ := h
  · simp at h0; subst h0; simp at hi
  · have ha : at_ (.slice (some ⟨g, 0, none⟩) n cp) i = ⟨g, i, none⟩ := by simp [at_]
    rw [ha]
    refine ⟨by simp [h0], .inr ⟨g, cp, cur.setIfInBounds i u, rfl, h1, heap_setCell_same w g i cur e u h2, h3, h4, by simpa using h5, ?_⟩⟩
    rw [← h6]
    simp [List.take_set]
theorem Own.place (h : w.ownsRow base e sz v n xs) {i : Nat} (hi : i < xs.length) : ∃ g cs, at_ v i = ⟨g, i, none⟩ ∧ v.ownBlock = some g ∧ Bk w g cs e ∧ i < cs.size := by
  obtain ⟨h0, ⟨rfl, rfl⟩ | ⟨g, cp, cur, rfl, h1, h2, h3, h4, h5, h6⟩⟩ := h
  · simp at h0; subst h0; simp at hi
  · refine ⟨g, cur, by simp [at_], rfl, .of h2, ?_⟩
    have := congrArg List.length h6
    simp at this
    omega
end
section
variable {P : Program} {w : World} {f : Fr} {ty : TypeId} {pos : String} {af : Array Edge} {g : Option (Nat × Bool)} {v : Value} {n k e base sz : Nat} {xs : List Value} {ops : Array Oper} {rest : List Oper} {N : Cn}
/-- A store into a row of one's own. -/
theorem L_setOwn {x y : Operand} {t : TypeId} {i : Nat} {u : Value} (hw : Wants ops f ⟨none, .store t x y, ty, pos, af, g⟩) (ht : (P.info? t).map (·.size) = some 1) (hx : ev f x = .pointer (some (at_ v i))) (hy : ev f y = u) (h1 : u.oneCell' = true) (hown : w.ownsRow base e sz v n xs) (hi : i < xs.length)
    (h : ∀ w1, w1.ownsRow base e sz v n (xs.set i u) → w1.heap.size = w.heap.size → Ch (fun j => v.ownBlock = some j) w w1 → Wl P k ops rest N f w1) : Wl P k ops (⟨none, .store t x y, ty, pos, af, g⟩ :: rest) N f w := by
  obtain ⟨b, cs, ha, hb, hbk, hlt⟩ := Own.place hown hi
  have hr := r_store (P := P) (ty := ty) (pos := pos) (af := af) (g := g) (dst := none) ht (by rw [hx, ha]) hy h1 hbk hlt
  rw [← ha] at hr
  refine L_do hw rfl hr (h _ (Own.set hown hi u) (by simp [World.setCell]) ?_)
  rw [ha]
  refine (Ch.set w ⟨b, i, none⟩ u).mono fun j _ hj => ?_
  have hj2 : j = b := hj
  rw [hj2]; exact hb
end
/-- A row that may be written, in block b. -/
def Mu (w : World) (b : Nat) (v : Value) (n : Nat) (xs : List Value) : Prop := xs.length = n ∧ ∃ c cs t, v = .slice (some ⟨b, 0, none⟩) n c ∧ n ≤ c ∧ Bk w b cs t ∧ n ≤ cs.size ∧ cs.toList.take n = xs
theorem Mu.sl {w : World} {b n : Nat} {v : Value} {xs : List Value} (h : Mu w b v n xs) : Sl w v 1 n xs := by
  obtain ⟨h0, c, cs, t, rfl, h1, h2, h3, h4⟩ := h
  refine ⟨by simpa using h0, .inr ⟨b, 0, c, cs, t, rfl, h1, h2.rk, fun i x hx => ?_⟩⟩
  have hi : i < n := by rw [← h0]; exact (List.getElem?_eq_some_iff.1 hx).1
  rw [← h4, List.getElem?_take_of_lt hi] at hx
  simpa using hx
theorem Mu.to {w w' : World} {b n : Nat} {v : Value} {xs : List Value} (h : Mu w b v n xs) (c : Sm w w' b) : Mu w' b v n xs := by
  obtain ⟨h0, cc, cs, t, rfl, h1, h2, h3, h4⟩ := h
  exact ⟨h0, cc, cs, t, rfl, h1, h2.to c, h3, h4⟩
section
variable {P : Program} {w : World} {f : Fr} {ty : TypeId} {pos : String} {af : Array Edge} {g : Option (Nat × Bool)} {v : Value} {n k b : Nat} {xs : List Value} {ops : Array Oper} {rest : List Oper} {N : Cn}
theorem L_setMu {x y : Operand} {t : TypeId} {i : Nat} {u : Value} (hw : Wants ops f ⟨none, .store t x y, ty, pos, af, g⟩) (ht : (P.info? t).map (·.size) = some 1) (hx : ev f x = .pointer (some (at_ v i))) (hy : ev f y = u) (h1 : u.oneCell' = true) (hm : Mu w b v n xs) (hi : i < xs.length)
    (h : ∀ w1, Mu w1 b v n (xs.set i u) → w1.heap.size = w.heap.size → Ch (fun j => j = b) w w1 → Wl P k ops rest N f w1) : Wl P k ops (⟨none, .store t x y, ty, pos, af, g⟩ :: rest) N f w := by
  obtain ⟨h0, c, cs, t', rfl, h2, h3, h4, h5⟩ := hm
  have ha : at_ (.slice (some ⟨b, 0, none⟩) n c) i = ⟨b, i, none⟩ := by simp [at_]
  have hr := r_store (P := P) (ty := ty) (pos := pos) (af := af) (g := g) (dst := none) ht (by rw [hx, ha]) hy h1 h3 (by omega)
  refine L_do hw rfl hr (h _ ⟨by simpa using h0, c, cs.setIfInBounds i u, t', rfl, h2, h3.set, by simpa using h4, ?_⟩ (by simp [World.setCell]) (Ch.set w ⟨b, i, none⟩ u))
  rw [← h5]
  simp [List.take_set]
end
/-! appending -/
section
variable {P : Program} {w : World} {f : Fr} {ty : TypeId} {pos : String} {af : Array Edge} {g : Option (Nat × Bool)} {v u : Value} {sz n m : Nat} {xs ys : List Value}
/-- To a row of one's own. -/
theorem ap_own {t e base bytes : Nat} {z : Value} (ht : P.underlying t = some (.slice e)) (hinfo : (P.info? e).map (fun i => (i.zero, i.size, i.bytes)) = some (some z, sz, bytes)) (hzs : z.cells.size = sz) (hsz : 0 < sz)
    (hown : w.ownsRow base e sz v n xs) (hu : Sl w u sz m ys) (h1 : ∀ y ∈ ys, y.oneCell' = true) (h63 : n + m ≤ maxLen) (hby : (n + m) * bytes ≤ 140737488355328) (hb : base ≤ w.heap.size) :
    ∃ v' w', (Builtin.append_ #[t, t] ty #[v, u]).run P w = .ok v' w' ∧ w'.ownsRow base e sz v' (n + m) (xs ++ ys) ∧ w.grownBy w' v.ownBlock := by
  obtain ⟨i, hi, hz0, hz1, hz2⟩ := info_parts hinfo
  obtain ⟨h0, ⟨rfl, rfl⟩ | ⟨b, o, c, cs, t', rfl, h2, h3, h4⟩⟩ := hu
  · have : ys = [] := List.eq_nil_of_length_eq_zero (by simpa using h0)
    subst this
    refine ⟨v, w, run_append_owned_none (P := P) w base t ty e i sz ht hi v n xs hown, by simpa using hown, World.grownBy.refl w _⟩
  · obtain ⟨v', w', h5, h6, h7, _⟩ := run_append_own (P := P) w base t ty e i z sz bytes ht hi hz0 hz1 hz2 hzs hsz v n xs hown ⟨b, o, none⟩ m c ys h0 (fun j y hj => by rw [add_lit, h3.cell]; exact h4 j y hj) h1 h63 hby hb
    exact ⟨v', w', h5, h6, h7⟩
/-- To a slice without room, something: a new row. -/
theorem ap_full {t e bytes c : Nat} {A : Option Addr} {z : Value} (ht : P.underlying t = some (.slice e)) (hinfo : (P.info? e).map (fun i => (i.zero, i.size, i.bytes)) = some (some z, sz, bytes)) (hzs : z.cells.size = sz) (hsz : 0 < sz) (hb0 : 0 < bytes)
    (hx : Sl w (.slice A n c) sz n xs) (hfull : n = c) (hu : Sl w u sz m ys) (hm : 0 < m) (h1x : ∀ y ∈ xs, y.oneCell' = true) (h1 : ∀ y ∈ ys, y.oneCell' = true) (h63 : n + m ≤ maxLen) (hby : (n + m) * bytes ≤ 140737488355328) :
    ∃ v' w', (Builtin.append_ #[t, t] ty #[.slice A n c, u]).run P w = .ok v' w' ∧ w'.ownsRow w.heap.size e sz v' (n + m) (xs ++ ys) ∧ Nw w w' := by
  obtain ⟨i, hi, hz0, hz1, hz2⟩ := info_parts hinfo
  subst hfull
  obtain ⟨hu0, ⟨rfl, rfl⟩ | ⟨b, o, cu, cs, t', rfl, h2, h3, h4⟩⟩ := hu
  · omega
  obtain ⟨hx0, ⟨hnil, hn0⟩ | ⟨b', o', cx, cs', t'', hv, k2, k3, k4⟩⟩ := hx
  · injection hnil with hA _ _
    subst hA hn0
    obtain ⟨v', w', h5, h6, h7⟩ := ap_own (ty := ty) (w := w) (base := w.heap.size) (v := .slice none 0 0) (n := 0) (xs := []) ht hinfo hzs hsz ⟨by simp, .inl ⟨rfl, rfl⟩⟩ (u := .slice (some ⟨b, o, none⟩) m cu) (ys := ys) ⟨hu0, .inr ⟨b, o, cu, cs, t', rfl, h2, h3, h4⟩⟩ h1 (by simpa using h63) (by simpa using hby) (Nat.le_refl _)
    have : xs = [] := List.eq_nil_of_length_eq_zero (by simpa using hx0)
    subst this
    exact ⟨v', w', h5, h6, (Ch.of_grown h7).mono fun i _ hi => by cases hi⟩
  · injection hv with hA _ hc
    subst hA
    have hnm : n < n + m := by omega
    have hfit := growslice_fits hnm hby
    unfold maxLen at h63
    have hrun := run_append_grow (P := P) w t ty e i z ht hi hz0 ⟨b', o', none⟩ n n xs (by rw [hz1]; exact hx0) (fun j y hj => by rw [add_lit, k3.cell]; exact k4 j y hj) ⟨b, o, none⟩ m cu ys (by rw [hz1]; exact hu0) (fun j y hj => by rw [add_lit, h3.cell]; exact h4 j y hj) hnm (by omega) (by rw [hz2]; exact hfit)
    refine ⟨_, _, hrun, ?_, ?_⟩
    · have hcap : n + m ≤ grownCap w (n + m) n e := by unfold grownCap Question.cut; simp only; omega
      have hcap2 : grownCap w (n + m) n e ≤ 9223372036854775807 := by
        unfold grownCap Question.cut
        simp only
        have := Nat.mod_lt (w.tape w.drawn (.appendCap (n + m) n e)) (show 0 < 2 ^ 63 - (n + m) by omega)
        omega
      refine ⟨by simp [hx0, hu0, Nat.add_mul], .inr ⟨w.heap.size, _, _, rfl, Nat.le_refl _, heap_alloc_new w.drew _, hcap, by unfold maxLen; exact hcap2, ?_, ?_⟩⟩
      · have hzz : (Builtin.zeroCells z.cells (grownCap w (n + m) n e - (n + m))).size = (grownCap w (n + m) n e - (n + m)) * sz := by simp [Builtin.zeroCells, hzs]
        simp only [Array.size_append, List.size_toArray, hx0, hu0, hzz]
        rw [← Nat.add_mul, ← Nat.add_mul]
        congr 1; omega
      · have : (n + m) * sz = (xs ++ ys).length := by simp [hx0, hu0, Nat.add_mul]
        rw [this]
        simp only [Array.toList_append, List.append_assoc]
        rw [← List.append_assoc, List.take_left']
        simp
    · exact (Ch.drew w).trans (Ch.alloc w.drew _)
variable {d k : Nat} {ops : Array Oper} {rest : List Oper} {N : Cn} {X : Nat → Cn} {R : Cn} {S : World → Prop} {fuel i : Nat} {listed : Array Bool}
theorem r_append {dst : Option Tmp} {s x : Operand} {t t2 : TypeId} {v' : Value} {w' : World} (hs : ev f s = v) (hx : ev f x = u) (h : (Builtin.append_ #[t, t2] ty #[v, u]).run P w = .ok v' w') :
    (execOp (ev f) ⟨dst, .call { callee := .builtin .append, args := #[s, x], argTypes := #[t, t2] }, ty, pos, af, g⟩).run P w = .ok (.value v') w' := by
  simp [execOp, resolve, invoke, builtin, hs, hx, h]
theorem L_apown {s x : Operand} {t e base bytes : Nat} {z : Value} (ht : P.underlying t = some (.slice e)) (hinfo : (P.info? e).map (fun i => (i.zero, i.size, i.bytes)) = some (some z, sz, bytes)) (hzs : z.cells.size = sz) (hsz : 0 < sz)
    (hw : Wants ops f ⟨some d, .call { callee := .builtin .append, args := #[s, x], argTypes := #[t, t] }, ty, pos, af, g⟩) (hn : Nat.blt d k = true) (hs : ev f s = v) (hx : ev f x = u)
    (hown : w.ownsRow base e sz v n xs) (hu : Sl w u sz m ys) (h1 : ∀ y ∈ ys, y.oneCell' = true) (h63 : n + m ≤ maxLen) (hby : (n + m) * bytes ≤ 140737488355328) (hb : base ≤ w.heap.size)
    (h : ∀ v' w1, w1.ownsRow base e sz v' (n + m) (xs ++ ys) → Ch (fun j => v.ownBlock = some j) w w1 → Wl P k ops rest N (upd f d v') w1) :
    Wl P k ops (⟨some d, .call { callee := .builtin .append, args := #[s, x], argTypes := #[t, t] }, ty, pos, af, g⟩ :: rest) N f w := by
  obtain ⟨v', w', h2, h3, h4⟩ := ap_own (ty := ty) ht hinfo hzs hsz hown hu h1 h63 hby hb
  exact L_run hw rfl hn (r_append hs hx h2) (h v' w' h3 (Ch.of_grown h4))
/-- To nothing: a new row (or none). -/
theorem L_apnil {s x : Operand} {t e bytes : Nat} {z : Value} (ht : P.underlying t = some (.slice e)) (hinfo : (P.info? e).map (fun i => (i.zero, i.size, i.bytes)) = some (some z, sz, bytes)) (hzs : z.cells.size = sz) (hsz : 0 < sz)
    (hw : Wants ops f ⟨some d, .call { callee := .builtin .append, args := #[s, x], argTypes := #[t, t] }, ty, pos, af, g⟩) (hn : Nat.blt d k = true) (hs : ev f s = .slice none 0 0) (hx : ev f x = u)
    (hu : Sl w u sz m ys) (h1 : ∀ y ∈ ys, y.oneCell' = true) (h63 : m ≤ maxLen) (hby : m * bytes ≤ 140737488355328)
    (h : ∀ v' w1, w1.ownsRow w.heap.size e sz v' m ys → Nw w w1 → Wl P k ops rest N (upd f d v') w1) :
    Wl P k ops (⟨some d, .call { callee := .builtin .append, args := #[s, x], argTypes := #[t, t] }, ty, pos, af, g⟩ :: rest) N f w := by
  obtain ⟨v', w', h2, h3, h4⟩ := ap_own (ty := ty) ht hinfo hzs hsz (Own.nil w w.heap.size e sz) hu h1 (by simpa using h63) (by simpa using hby) (Nat.le_refl _)
  rw [Nat.zero_add, List.nil_append] at h3
  exact L_run hw rfl hn (r_append hs hx h2) (h v' w' h3 ((Ch.of_grown h4).mono fun i _ hi => by cases hi))
theorem L_apfull {s x : Operand} {t e bytes c : Nat} {A : Option Addr} {z : Value} (ht : P.underlying t = some (.slice e)) (hinfo : (P.info? e).map (fun i => (i.zero, i.size, i.bytes)) = some (some z, sz, bytes)) (hzs : z.cells.size = sz) (hsz : 0 < sz) (hb0 : 0 < bytes)
    (hw : Wants ops f ⟨some d, .call { callee := .builtin .append, args := #[s, x], argTypes := #[t, t] }, ty, pos, af, g⟩) (hn : Nat.blt d k = true) (hs : ev f s = .slice A n c) (hx : ev f x = u)
    (hxs : Sl w (.slice A n c) sz n xs) (hfull : n = c) (hu : Sl w u sz m ys) (hm : 0 < m) (h1x : ∀ y ∈ xs, y.oneCell' = true) (h1 : ∀ y ∈ ys, y.oneCell' = true) (h63 : n + m ≤ maxLen) (hby : (n + m) * bytes ≤ 140737488355328)
    (h : ∀ v' w1, w1.ownsRow w.heap.size e sz v' (n + m) (xs ++ ys) → Nw w w1 → Wl P k ops rest N (upd f d v') w1) :
    Wl P k ops (⟨some d, .call { callee := .builtin .append, args := #[s, x], argTypes := #[t, t] }, ty, pos, af, g⟩ :: rest) N f w := by
  obtain ⟨v', w', h2, h3, h4⟩ := ap_full (ty := ty) ht hinfo hzs hsz hb0 hxs hfull hu hm h1x h1 h63 hby
  exact L_run hw rfl hn (r_append hs hx h2) (h v' w' h3 h4)
/-- A literal slice. -/
theorem r_buildSlice {dst : Option Tmp} {t e len : Nat} {parts : Array (Nat × Operand)} {cells : Array Value} {z : Value} {sz bytes : Nat} (ht : P.underlying t = some (.slice e)) (hinfo : (P.info? e).map (fun i => (i.zero, i.size, i.bytes)) = some (some z, sz, bytes)) (hl : len * sz ≤ 16777216) (h0 : 0 < len * sz)
    (hf : Instr.fill (fun i => some (i * sz, sz)) ((Array.range (len * sz)).map (z.cells[· % z.cells.size]!)) (parts.map fun (i, x) => (i, ev f x)).toList = some cells) :
    (execOp (ev f) ⟨dst, .buildSlice t len parts, ty, pos, af, g⟩).run P w = .ok (.value (.slice (some ⟨w.heap.size, 0, none⟩) len len)) (w.alloc (.cells cells e)) := by
  obtain ⟨i, hi, hz0, hz1, hz2⟩ := info_parts hinfo
  have h2 : ¬ 16777216 < len * sz := by omega
  have h3 : ¬ (len = 0 ∨ sz = 0) := by
    rintro (rfl | rfl) <;> simp at h0
  have h4 : ¬ len = 0 := fun x => h3 (.inl x)
  have h5 : ¬ sz = 0 := fun x => h3 (.inr x)
  simp only [execOp, Instr.buildSlice, Sem.run_bind, run_underlying ht, Result.andThen_ok, sizeOf, typeInfo, run_program, hi, Sem.run_pure, hz1]
  rw [if_neg (by simpa using h2)]
  simp [zeroValue, typeInfo, hi, hz0, h4, h5, newRow]
  rw [if_neg (by omega)]
  have hf' : Instr.fill (fun i => some (i * sz, sz)) ((Array.range (len * sz)).map (z.cells[· % z.cells.size]!)) (parts.toList.map fun x => (x.1, ev f x.2)) = some cells := by simpa using hf
  rw [hf']
  simp
theorem L_buildSlice {t e len : Nat} {parts : Array (Nat × Operand)} {cells : Array Value} {z : Value} {sz bytes : Nat} (ht : P.underlying t = some (.slice e)) (hinfo : (P.info? e).map (fun i => (i.zero, i.size, i.bytes)) = some (some z, sz, bytes)) (hl : len * sz ≤ 16777216) (h0 : 0 < len * sz)
    (hw : Wants ops f ⟨some d, .buildSlice t len parts, ty, pos, af, g⟩) (hn : Nat.blt d k = true)
    (hf : Instr.fill (fun i => some (i * sz, sz)) ((Array.range (len * sz)).map (z.cells[· % z.cells.size]!)) (parts.map fun (i, x) => (i, ev f x)).toList = some cells) (hc : cells.size = len * sz)
    (h : ∀ b w1, Bk w1 b cells e → Sl w1 (.slice (some ⟨b, 0, none⟩) len len) sz len cells.toList → b = w.heap.size → w1.heap.size = b + 1 → Nw w w1 → Wl P k ops rest N (upd f d (.slice (some ⟨b, 0, none⟩) len len)) w1) :
    Wl P k ops (⟨some d, .buildSlice t len parts, ty, pos, af, g⟩ :: rest) N f w :=
  L_run hw rfl hn (r_buildSlice ht hinfo hl h0 hf) (h _ _ (Bk.new w _ _) ⟨by simp [hc], .inr ⟨_, 0, _, _, _, rfl, Nat.le_refl _, (Bk.new w _ _).rk, fun i x hx => by simpa using hx⟩⟩ rfl (by simp) (Ch.alloc w _))
end
/-! cutting slices -/
section
theorem sl_cut {w : World} {A : Option Addr} {c sz n i j m : Nat} {xs : List Value} (h : Sl w (.slice A n c) sz n xs) (hij : i ≤ j) (hj : j ≤ n) (hm : j ≤ m) (hmc : m ≤ c) :
    Sl w (sliced A i j m sz) sz (j - i) ((xs.take (j * sz)).drop (i * sz)) ∧ (sliced A i j m sz).ownBlock = (Value.slice A n c).ownBlock := by
  obtain ⟨h0, ⟨hv, hn⟩ | ⟨b, o, cp, cs, t, hv, h1, h2, h3⟩⟩ := h
  · injection hv with hA _ hc
    subst hA hn
    have : xs = [] := List.eq_nil_of_length_eq_zero (by simpa using h0)
    subst this
    have hi0 : i = 0 := by omega
    have hj0 : j = 0 := by omega
    subst hi0 hj0
    have hm0 : m = 0 := by omega
    subst hm0
    exact ⟨⟨by simp, .inl ⟨by simp [sliced], rfl⟩⟩, by simp [sliced, Value.ownBlock]⟩
  · injection hv with hA _ _
    subst hA
    have hlen : ((xs.take (j * sz)).drop (i * sz)).length = (j - i) * sz := by
      simp only [List.length_drop, List.length_take, h0, Nat.sub_mul]
      rw [Nat.min_eq_left (Nat.mul_le_mul_right sz hj)]
    unfold sliced
    by_cases hmi : m = i
    · rw [if_pos hmi]
      refine ⟨⟨hlen, .inr ⟨b, o, m - i, cs, t, rfl, by omega, h2, fun k x hx => ?_⟩⟩, rfl⟩
      have : j - i = 0 := by omega
      rw [this, Nat.zero_mul] at hlen
      rw [List.eq_nil_of_length_eq_zero hlen] at hx
      simp at hx
    · rw [if_neg hmi]
      refine ⟨⟨hlen, .inr ⟨b, o + i * sz, m - i, cs, t, by simp [add_lit], by omega, h2, fun k x hx => ?_⟩⟩, by simp [Value.ownBlock, add_lit]⟩
      rw [List.getElem?_drop] at hx
      have hk : i * sz + k < j * sz := by
        have := (List.getElem?_eq_some_iff.1 hx).1
        simp only [List.length_take] at this
        omega
      rw [List.getElem?_take_of_lt hk] at hx
      rw [Nat.add_assoc]
      exact h3 _ _ hx
variable {P : Program} {w : World} {f : Fr} {ty : TypeId} {pos : String} {af : Array Edge} {g : Option (Nat × Bool)} {v : Value} {n k e sz d : Nat} {xs : List Value} {ops : Array Oper} {rest : List Oper} {N : Cn} {Z : Fr → Prop} {x : Operand} {t : TypeId} {i j m : Int}
theorem cut_h {z : Operand} (hu : P.underlying t = some (.slice e)) (hz : (P.info? e).map (·.size) = some sz) (hx : ev f x = v) (h : Sl w v sz n xs) (hz2 : ev f z = .int .i64 j) (h0 : 0 ≤ j) (h1 : j ≤ n) :
    ∃ v', (∀ w', (execOp (ev f) ⟨some d, .slice t x none (some z) none, ty, pos, af, g⟩).run P w' = .ok (.value v') w') ∧ (Sl w v' sz (j.toNat) (xs.take (j.toNat * sz))) ∧ v'.ownBlock = v.ownBlock := by
  obtain ⟨A, c, rfl, hc⟩ := h.len
  obtain ⟨inf, hi1, hi2⟩ := Option.map_eq_some_iff.1 hz
  have he : P.elem t = e := by simp [Program.elem, hu]
  have hs := sl_cut (i := 0) (j := j.toNat) (m := c) h (by omega) (by omega) (by omega) (by omega)
  refine ⟨sliced A (0) (j.toNat) (c) sz, fun w => ?_, by simpa using hs.1, hs.2⟩
  · have := run_slice_h w t A n c (by rw [he]; exact hu) .i64 j h0 (by omega)
    simp [execOp, hx, hz2, run_sliceAt_slice w t _ _ _ _ (by rw [he]; exact hu), this, he, sizeOf, typeInfo, hi1, hi2]
theorem L_slice_h (sz : Nat) {n : Nat} {xs : List Value} {z : Operand} (hu : P.underlying t = some (.slice e)) (hz : (P.info? e).map (·.size) = some sz) (hw : Wants ops f ⟨some d, .slice t x none (some z) none, ty, pos, af, g⟩) (hn : Nat.blt d k = true) (hx : ev f x = v) (h : Sl w v sz n xs) (hz2 : ev f z = .int .i64 j) (h0 : 0 ≤ j) (h1 : j ≤ n)
    (hK : ∀ v', Sl w v' sz (j.toNat) (xs.take (j.toNat * sz)) → v'.ownBlock = v.ownBlock → Wl P k ops rest N (upd f d v') w) : Wl P k ops (⟨some d, .slice t x none (some z) none, ty, pos, af, g⟩ :: rest) N f w := by
  obtain ⟨v', hr, hs, ho⟩ := cut_h (P := P) (d := d) (ty := ty) (pos := pos) (af := af) (g := g) hu hz hx h hz2 h0 h1
  exact L_run hw rfl hn (hr w) (hK v' hs ho)
theorem H_slice_h (sz : Nat) {n : Nat} {xs : List Value} {z : Operand} (hu : P.underlying t = some (.slice e)) (hz : (P.info? e).map (·.size) = some sz) (hw : Wants ops f ⟨some d, .slice t x none (some z) none, ty, pos, af, g⟩) (hn : Nat.blt d k = true) (hx : ev f x = v) (h : Sl w v sz n xs) (hz2 : ev f z = .int .i64 j) (h0 : 0 ≤ j) (h1 : j ≤ n)
    (hK : ∀ v', Sl w v' sz (j.toNat) (xs.take (j.toNat * sz)) → v'.ownBlock = v.ownBlock → Hs P k ops w rest Z (upd f d v')) : Hs P k ops w (⟨some d, .slice t x none (some z) none, ty, pos, af, g⟩ :: rest) Z f := by
  obtain ⟨v', hr, hs, ho⟩ := cut_h (P := P) (d := d) (ty := ty) (pos := pos) (af := af) (g := g) hu hz hx h hz2 h0 h1
  exact H_run hw rfl hn (hr w) (hK v' hs ho)
theorem cut_l {y : Operand} (hu : P.underlying t = some (.slice e)) (hz : (P.info? e).map (·.size) = some sz) (hx : ev f x = v) (h : Sl w v sz n xs) (hy : ev f y = .int .i64 i) (h0 : 0 ≤ i) (h1 : i ≤ n) :
    ∃ v', (∀ w', (execOp (ev f) ⟨some d, .slice t x (some y) none none, ty, pos, af, g⟩).run P w' = .ok (.value v') w') ∧ (Sl w v' sz (n - i.toNat) (xs.drop (i.toNat * sz))) ∧ v'.ownBlock = v.ownBlock := by
  obtain ⟨A, c, rfl, hc⟩ := h.len
  obtain ⟨inf, hi1, hi2⟩ := Option.map_eq_some_iff.1 hz
  have he : P.elem t = e := by simp [Program.elem, hu]
  have hs := sl_cut (i := i.toNat) (j := n) (m := c) h (by omega) (by omega) (by omega) (by omega)
  refine ⟨sliced A (i.toNat) (n) (c) sz, fun w => ?_, by have := hs.1; rwa [List.take_of_length_le (by rw [h.1]; exact Nat.le_refl _)] at this, hs.2⟩
  · have := run_slice_l w t A n c (by rw [he]; exact hu) .i64 i h0 (by omega)
    simp [execOp, hx, hy, run_sliceAt_slice w t _ _ _ _ (by rw [he]; exact hu), this, he, sizeOf, typeInfo, hi1, hi2]
theorem L_slice_l (sz : Nat) {n : Nat} {xs : List Value} {y : Operand} (hu : P.underlying t = some (.slice e)) (hz : (P.info? e).map (·.size) = some sz) (hw : Wants ops f ⟨some d, .slice t x (some y) none none, ty, pos, af, g⟩) (hn : Nat.blt d k = true) (hx : ev f x = v) (h : Sl w v sz n xs) (hy : ev f y = .int .i64 i) (h0 : 0 ≤ i) (h1 : i ≤ n)
    (hK : ∀ v', Sl w v' sz (n - i.toNat) (xs.drop (i.toNat * sz)) → v'.ownBlock = v.ownBlock → Wl P k ops rest N (upd f d v') w) : Wl P k ops (⟨some d, .slice t x (some y) none none, ty, pos, af, g⟩ :: rest) N f w := by
  obtain ⟨v', hr, hs, ho⟩ := cut_l (P := P) (d := d) (ty := ty) (pos := pos) (af := af) (g := g) hu hz hx h hy h0 h1
  exact L_run hw rfl hn (hr w) (hK v' hs ho)
theorem H_slice_l (sz : Nat) {n : Nat} {xs : List Value} {y : Operand} (hu : P.underlying t = some (.slice e)) (hz : (P.info? e).map (·.size) = some sz) (hw : Wants ops f ⟨some d, .slice t x (some y) none none, ty, pos, af, g⟩) (hn : Nat.blt d k = true) (hx : ev f x = v) (h : Sl w v sz n xs) (hy : ev f y = .int .i64 i) (h0 : 0 ≤ i) (h1 : i ≤ n)
    (hK : ∀ v', Sl w v' sz (n - i.toNat) (xs.drop (i.toNat * sz)) → v'.ownBlock = v.ownBlock → Hs P k ops w rest Z (upd f d v')) : Hs P k ops w (⟨some d, .slice t x (some y) none none, ty, pos, af, g⟩ :: rest) Z f := by
  obtain ⟨v', hr, hs, ho⟩ := cut_l (P := P) (d := d) (ty := ty) (pos := pos) (af := af) (g := g) hu hz hx h hy h0 h1
  exact H_run hw rfl hn (hr w) (hK v' hs ho)
theorem cut_lh {y : Operand} {z : Operand} (hu : P.underlying t = some (.slice e)) (hz : (P.info? e).map (·.size) = some sz) (hx : ev f x = v) (h : Sl w v sz n xs) (hy : ev f y = .int .i64 i) (hz2 : ev f z = .int .i64 j) (h0 : 0 ≤ i) (h1 : i ≤ j) (h2 : j ≤ n) :
    ∃ v', (∀ w', (execOp (ev f) ⟨some d, .slice t x (some y) (some z) none, ty, pos, af, g⟩).run P w' = .ok (.value v') w') ∧ (Sl w v' sz (j.toNat - i.toNat) ((xs.take (j.toNat * sz)).drop (i.toNat * sz))) ∧ v'.ownBlock = v.ownBlock := by
  obtain ⟨A, c, rfl, hc⟩ := h.len
  obtain ⟨inf, hi1, hi2⟩ := Option.map_eq_some_iff.1 hz
  have he : P.elem t = e := by simp [Program.elem, hu]
  have hs := sl_cut (i := i.toNat) (j := j.toNat) (m := c) h (by omega) (by omega) (by omega) (by omega)
  refine ⟨sliced A (i.toNat) (j.toNat) (c) sz, fun w => ?_, hs.1, hs.2⟩
  · have := run_slice_lh w t A n c (by rw [he]; exact hu) .i64 .i64 i j h0 h1 (by omega)
    simp [execOp, hx, hy, hz2, run_sliceAt_slice w t _ _ _ _ (by rw [he]; exact hu), this, he, sizeOf, typeInfo, hi1, hi2]
theorem L_slice_lh (sz : Nat) {n : Nat} {xs : List Value} {y : Operand} {z : Operand} (hu : P.underlying t = some (.slice e)) (hz : (P.info? e).map (·.size) = some sz) (hw : Wants ops f ⟨some d, .slice t x (some y) (some z) none, ty, pos, af, g⟩) (hn : Nat.blt d k = true) (hx : ev f x = v) (h : Sl w v sz n xs) (hy : ev f y = .int .i64 i) (hz2 : ev f z = .int .i64 j) (h0 : 0 ≤ i) (h1 : i ≤ j) (h2 : j ≤ n)
    (hK : ∀ v', Sl w v' sz (j.toNat - i.toNat) ((xs.take (j.toNat * sz)).drop (i.toNat * sz)) → v'.ownBlock = v.ownBlock → Wl P k ops rest N (upd f d v') w) : Wl P k ops (⟨some d, .slice t x (some y) (some z) none, ty, pos, af, g⟩ :: rest) N f w := by
  obtain ⟨v', hr, hs, ho⟩ := cut_lh (P := P) (d := d) (ty := ty) (pos := pos) (af := af) (g := g) hu hz hx h hy hz2 h0 h1 h2
  exact L_run hw rfl hn (hr w) (hK v' hs ho)
theorem H_slice_lh (sz : Nat) {n : Nat} {xs : List Value} {y : Operand} {z : Operand} (hu : P.underlying t = some (.slice e)) (hz : (P.info? e).map (·.size) = some sz) (hw : Wants ops f ⟨some d, .slice t x (some y) (some z) none, ty, pos, af, g⟩) (hn : Nat.blt d k = true) (hx : ev f x = v) (h : Sl w v sz n xs) (hy : ev f y = .int .i64 i) (hz2 : ev f z = .int .i64 j) (h0 : 0 ≤ i) (h1 : i ≤ j) (h2 : j ≤ n)
    (hK : ∀ v', Sl w v' sz (j.toNat - i.toNat) ((xs.take (j.toNat * sz)).drop (i.toNat * sz)) → v'.ownBlock = v.ownBlock → Hs P k ops w rest Z (upd f d v')) : Hs P k ops w (⟨some d, .slice t x (some y) (some z) none, ty, pos, af, g⟩ :: rest) Z f := by
  obtain ⟨v', hr, hs, ho⟩ := cut_lh (P := P) (d := d) (ty := ty) (pos := pos) (af := af) (g := g) hu hz hx h hy hz2 h0 h1 h2
  exact H_run hw rfl hn (hr w) (hK v' hs ho)
theorem cut_hm {z : Operand} {q : Operand} (hu : P.underlying t = some (.slice e)) (hz : (P.info? e).map (·.size) = some sz) (hx : ev f x = v) (h : Sl w v sz n xs) (hz2 : ev f z = .int .i64 j) (hq : ev f q = .int .i64 m) (h0 : 0 ≤ j) (h1 : j ≤ n) (h2 : m = j) :
    ∃ v', (∀ w', (execOp (ev f) ⟨some d, .slice t x none (some z) (some q), ty, pos, af, g⟩).run P w' = .ok (.value v') w') ∧ (∃ A, v' = .slice A j.toNat j.toNat) ∧ (Sl w v' sz (j.toNat) (xs.take (j.toNat * sz))) ∧ v'.ownBlock = v.ownBlock := by
  obtain ⟨A, c, rfl, hc⟩ := h.len
  obtain ⟨inf, hi1, hi2⟩ := Option.map_eq_some_iff.1 hz
  have he : P.elem t = e := by simp [Program.elem, hu]
  have hs := sl_cut (i := 0) (j := j.toNat) (m := m.toNat) h (by omega) (by omega) (by omega) (by omega)
  refine ⟨sliced A (0) (j.toNat) (m.toNat) sz, fun w => ?_, ⟨_, by unfold sliced; rw [show m.toNat = j.toNat by omega, Nat.sub_zero]⟩, by simpa using hs.1, hs.2⟩
  · have := run_slice_hm w t A n c (by rw [he]; exact hu) .i64 .i64 j m h0 (by omega) (by omega)
    simp [execOp, hx, hz2, hq, run_sliceAt_slice w t _ _ _ _ (by rw [he]; exact hu), this, he, sizeOf, typeInfo, hi1, hi2]
theorem L_slice_hm (sz : Nat) {n : Nat} {xs : List Value} {z : Operand} {q : Operand} (hu : P.underlying t = some (.slice e)) (hz : (P.info? e).map (·.size) = some sz) (hw : Wants ops f ⟨some d, .slice t x none (some z) (some q), ty, pos, af, g⟩) (hn : Nat.blt d k = true) (hx : ev f x = v) (h : Sl w v sz n xs) (hz2 : ev f z = .int .i64 j) (hq : ev f q = .int .i64 m) (h0 : 0 ≤ j) (h1 : j ≤ n) (h2 : m = j)
    (hK : ∀ v', (∃ A, v' = .slice A j.toNat j.toNat) → Sl w v' sz (j.toNat) (xs.take (j.toNat * sz)) → v'.ownBlock = v.ownBlock → Wl P k ops rest N (upd f d v') w) : Wl P k ops (⟨some d, .slice t x none (some z) (some q), ty, pos, af, g⟩ :: rest) N f w := by
  obtain ⟨v', hr, hA, hs, ho⟩ := cut_hm (P := P) (d := d) (ty := ty) (pos := pos) (af := af) (g := g) hu hz hx h hz2 hq h0 h1 h2
  exact L_run hw rfl hn (hr w) (hK v' hA hs ho)
theorem H_slice_hm (sz : Nat) {n : Nat} {xs : List Value} {z : Operand} {q : Operand} (hu : P.underlying t = some (.slice e)) (hz : (P.info? e).map (·.size) = some sz) (hw : Wants ops f ⟨some d, .slice t x none (some z) (some q), ty, pos, af, g⟩) (hn : Nat.blt d k = true) (hx : ev f x = v) (h : Sl w v sz n xs) (hz2 : ev f z = .int .i64 j) (hq : ev f q = .int .i64 m) (h0 : 0 ≤ j) (h1 : j ≤ n) (h2 : m = j)
    (hK : ∀ v', (∃ A, v' = .slice A j.toNat j.toNat) → Sl w v' sz (j.toNat) (xs.take (j.toNat * sz)) → v'.ownBlock = v.ownBlock → Hs P k ops w rest Z (upd f d v')) : Hs P k ops w (⟨some d, .slice t x none (some z) (some q), ty, pos, af, g⟩ :: rest) Z f := by
  obtain ⟨v', hr, hA, hs, ho⟩ := cut_hm (P := P) (d := d) (ty := ty) (pos := pos) (af := af) (g := g) hu hz hx h hz2 hq h0 h1 h2
  exact H_run hw rfl hn (hr w) (hK v' hA hs ho)

/-- '[]byte' of bytes that a text's constant is: the block is marked. -/
theorem L_mark {t e b m : Nat} {cs : Array Value} (hu : P.underlying t = some (.slice e)) (he : P.underlying e = some (.int .u8)) (hw : Wants ops f ⟨some d, .convert t t x, ty, pos, af, g⟩) (hn : Nat.blt d k = true) (hx : ev f x = .slice (some ⟨b, 0, none⟩) m m) (hb : Bk w b cs e)
    (hm : cs.size = m) (hK : ∀ w1, Bk w1 b cs e → Sl w1 (.slice (some ⟨b, 0, none⟩) m m) 1 m cs.toList → w1.heap.size = w.heap.size → Ch (fun i => i = b) w w1 → Wl P k ops rest N (upd f d (.slice (some ⟨b, 0, none⟩) m m)) w1) :
    Wl P k ops (⟨some d, .convert t t x, ty, pos, af, g⟩ :: rest) N f w := by
  obtain ⟨fr, h0, hfr⟩ := hb
  have hsh : w.shape? b = some (e, cs.size) := by simp [World.shape?, h0]
  have hrun : (execOp (ev f) ⟨some d, .convert t t x, ty, pos, af, g⟩).run P w = .ok (.value (.slice (some ⟨b, 0, none⟩) m m)) (w.freeze ⟨b, cs.size, none⟩ 1) := by
    simp [execOp, hx, convert, run_underlying hu, run_underlying he, markStringish, hsh]
  have hbk : Bk (w.freeze ⟨b, cs.size, none⟩ 1) b cs e := by
    obtain ⟨lo, hi⟩ := fr
    by_cases hl : lo = hi
    · exact ⟨(cs.size, cs.size + 1), by simp [World.freeze, Array.getElem?_modify, h0, hl], .inr (Nat.le_refl _)⟩
    · refine ⟨(min lo cs.size, max hi (cs.size + 1)), by simp [World.freeze, Array.getElem?_modify, h0, hl], .inr ?_⟩
      rcases hfr with hfr | hfr
      · injection hfr with h1 h2; omega
      · simp only at hfr ⊢; omega
  refine L_run hw rfl hn hrun (hK _ hbk ⟨by simp [hm], .inr ⟨b, 0, m, cs, e, rfl, Nat.le_refl _, hbk.rk, fun i x hx => by simpa using hx⟩⟩ (by simp [World.freeze]) ?_)
  exact ⟨by simp [World.freeze], by simp [World.freeze], by simp [World.freeze], by simp [World.freeze], fun i _ hi => by simp [World.freeze, Array.getElem?_modify, Ne.symm hi]⟩
end
/-! literal slices of one-cell elements -/
theorem fill_one : ∀ (vs : List Value) (k : Nat) (cur : Array Value), (∀ v ∈ vs, v.oneCell' = true) → k + vs.length ≤ cur.size →
    Instr.fill (fun i => some (i * 1, 1)) cur ((List.range' k vs.length).zip vs) = some (cur.toList.take k ++ vs ++ cur.toList.drop (k + vs.length)).toArray
  | [], k, cur, _, _ => by simp [Instr.fill]
  | v :: vs, k, cur, h1, hl => by
    have hv : v.cells = #[v] := by
      have := h1 v List.mem_cons_self
      cases v <;> first | rfl | (simp [Value.oneCell'] at this)
    simp only [List.length_cons] at hl
    have hk : k < cur.size := by omega
    have hnot : ¬ (1 ≠ 1 ∨ cur.size < k * 1 + 1) := by omega
    simp only [List.length_cons, List.range'_succ, List.zip_cons_cons, Instr.fill, hv]
    have h2 : (#[v] : Array Value).size = 1 := rfl
    rw [h2]
    have h3 : (decide (1 ≠ 1) || decide (k * 1 + 1 > cur.size)) = false := by simp; omega
    simp only [h3, Bool.false_eq_true, if_false]
    have h4 : Array.foldl (fun cs (x : Value × Nat) => cs.setIfInBounds (k * 1 + x.2) x.1) cur (#[v] : Array Value).zipIdx = cur.setIfInBounds k v := by simp [Array.zipIdx]
    have h5 := fill_one vs (k + 1) (cur.setIfInBounds k v) (fun u hu => h1 u (List.mem_cons_of_mem _ hu)) (by simp; omega)
    refine Eq.trans ?_ (h5.trans ?_)
    · rw [← h4]
    · congr 2
      simp only [Array.toList_setIfInBounds]
      have a1 : (cur.toList.set k v).take (k + 1) = cur.toList.take k ++ [v] := by
        rw [List.take_add_one, List.take_set_of_le (Nat.le_refl _)]
        simp [hk]
      have a2 : (cur.toList.set k v).drop (k + 1 + vs.length) = cur.toList.drop (k + (vs.length + 1)) := by
        rw [List.drop_set_of_lt (by omega)]
        congr 1; omega
      rw [a1, a2]
      simp
section
variable {P : Program} {w : World} {f : Fr} {ty : TypeId} {pos : String} {af : Array Edge} {g : Option (Nat × Bool)} {d k : Nat} {ops : Array Oper} {rest : List Oper} {N : Cn}
theorem build_one {t e len bytes : Nat} {parts : Array (Nat × Operand)} {vs : List Value} {z : Value} {dst : Option Tmp} (ht : P.underlying t = some (.slice e)) (hinfo : (P.info? e).map (fun i => (i.zero, i.size, i.bytes)) = some (some z, 1, bytes)) (hl : Nat.ble 1 len = true) (hl2 : Nat.ble len 16777216 = true)
    (hi : parts.toList.map (·.1) = List.range' 0 len) (hv : parts.toList.map (fun p => ev f p.2) = vs) (h1 : vs.all (·.oneCell') = true) :
    (execOp (ev f) ⟨dst, .buildSlice t len parts, ty, pos, af, g⟩).run P w = .ok (.value (.slice (some ⟨w.heap.size, 0, none⟩) len len)) (w.alloc (.cells vs.toArray e)) := by
  have hlen : vs.length = len := by
    have := congrArg List.length hi
    rw [← hv]; simpa using this
  have h0 := Nat.le_of_ble_eq_true hl
  have h02 := Nat.le_of_ble_eq_true hl2
  refine r_buildSlice ht hinfo (by omega) (by omega) ?_
  have hz : (parts.map fun (i, x) => (i, ev f x)).toList = (List.range' 0 vs.length).zip vs := by
    rw [hlen, ← hi, ← hv]
    simp [List.zip_map']
  rw [hz, fill_one vs 0 _ (fun v hv => List.all_eq_true.1 h1 v hv) (by simp [hlen])]
  simp [hlen]
theorem L_build1 {t e len bytes : Nat} {parts : Array (Nat × Operand)} (vs : List Value) {z : Value} (ht : P.underlying t = some (.slice e)) (hinfo : (P.info? e).map (fun i => (i.zero, i.size, i.bytes)) = some (some z, 1, bytes)) (hl : Nat.ble 1 len = true) (hl2 : Nat.ble len 16777216 = true)
    (hw : Wants ops f ⟨some d, .buildSlice t len parts, ty, pos, af, g⟩) (hn : Nat.blt d k = true)
    (hi : parts.toList.map (·.1) = List.range' 0 len) (hv : parts.toList.map (fun p => ev f p.2) = vs) (h1 : vs.all (·.oneCell') = true)
    (h : ∀ b w1, Bk w1 b vs.toArray e → Sl w1 (.slice (some ⟨b, 0, none⟩) len len) 1 len vs → b = w.heap.size → w1.heap.size = b + 1 → Nw w w1 → Wl P k ops rest N (upd f d (.slice (some ⟨b, 0, none⟩) len len)) w1) :
    Wl P k ops (⟨some d, .buildSlice t len parts, ty, pos, af, g⟩ :: rest) N f w := by
  have hlen : vs.length = len := by
    have := congrArg List.length hi
    rw [← hv]; simpa using this
  exact L_run hw rfl hn (build_one ht hinfo hl hl2 hi hv h1) (h _ _ (Bk.new w _ _) ⟨by simp [hlen], .inr ⟨_, 0, _, _, _, rfl, Nat.le_refl _, (Bk.new w _ _).rk, fun i x hx => by simpa using hx⟩⟩ rfl (by simp) (Ch.alloc w _))
end
/-! making slices of one-cell elements -/
theorem made_one (z : Value) (n : Nat) : (madeCells #[z] n).toList = List.replicate n z := by
  apply List.ext_getElem
  · simp [madeCells]
  · intro i _ _; simp [madeCells, Nat.mod_one]
section
variable {P : Program} {w : World} {f : Fr} {ty : TypeId} {pos : String} {af : Array Edge} {g : Option (Nat × Bool)} {d k : Nat} {ops : Array Oper} {rest : List Oper} {N : Cn}
theorem make_one {dst : Option Tmp} {t e bytes : Nat} {l c : Operand} {z : Value} {m : Int} (ht : P.underlying t = some (.slice e)) (hinfo : (P.info? e).map (fun i => (i.zero, i.size, i.bytes)) = some (some z, 1, bytes)) (hz1 : z.oneCell' = true)
    (hl : ev f l = .int .i64 m) (hc : ev f c = .int .i64 m) (h0 : 0 ≤ m) (hb : bytes * m.toNat ≤ 281474976710656) (hm : m.toNat ≤ maxLen) :
    ∃ v w', (execOp (ev f) ⟨dst, .makeSlice t l c, ty, pos, af, g⟩).run P w = .ok (.value v) w' ∧ w'.ownsRow w.heap.size e 1 v m.toNat (List.replicate m.toNat z) ∧ Nw w w' := by
  obtain ⟨i, hi, hz0, hz, hz2⟩ := info_parts hinfo
  have hcl : z.cells = #[z] := by cases z <;> first | rfl | (simp [Value.oneCell'] at hz1)
  obtain ⟨w', h1, h2, h3⟩ := run_make_full (P := P) w w.heap.size t e i z 1 ht hi hz0 hz .i64 .i64 m.toNat (by rw [hz2]; exact hb) hm (Nat.le_refl _)
  have hmm : ((m.toNat : Nat) : Int) = m := by omega
  rw [hmm] at h1
  rw [hcl, Nat.mul_one, made_one] at h2
  exact ⟨_, w', by simp [execOp, hl, hc, h1], h2, (Ch.of_grown h3).mono fun _ _ hx => by cases hx⟩
theorem L_make1 {t e bytes : Nat} {l c : Operand} {z : Value} {m : Int} (ht : P.underlying t = some (.slice e)) (hinfo : (P.info? e).map (fun i => (i.zero, i.size, i.bytes)) = some (some z, 1, bytes)) (hz1 : z.oneCell' = true)
    (hw : Wants ops f ⟨some d, .makeSlice t l c, ty, pos, af, g⟩) (hn : Nat.blt d k = true) (hl : ev f l = .int .i64 m) (hc : ev f c = .int .i64 m) (h0 : 0 ≤ m) (hb : bytes * m.toNat ≤ 281474976710656) (hm : m.toNat ≤ maxLen)
    (h : ∀ v w1, w1.ownsRow w.heap.size e 1 v m.toNat (List.replicate m.toNat z) → Nw w w1 → Wl P k ops rest N (upd f d v) w1) : Wl P k ops (⟨some d, .makeSlice t l c, ty, pos, af, g⟩ :: rest) N f w := by
  obtain ⟨v, w', h1, h2, h3⟩ := make_one (P := P) (w := w) (ty := ty) (pos := pos) (af := af) (g := g) (dst := some d) ht hinfo hz1 hl hc h0 hb hm
  exact L_run hw rfl hn h1 (h v w' h2 h3)
end
/-- A row of one's own, from its block's first cell on; what stands behind it may be anything. -/
def Ow (w : World) (base : Nat) (e : TypeId) (sz : Nat) (v : Value) (n : Nat) (xs : List Value) : Prop :=
  xs.length = n * sz ∧ ((v = .slice none 0 0 ∧ n = 0) ∨
    ∃ g cap cur, v = .slice (some ⟨g, 0, none⟩) n cap ∧ base ≤ g ∧ w.heap[g]? = some (.cells cur e (0, 0)) ∧ n ≤ cap ∧ cap ≤ maxLen ∧ cap * sz ≤ cur.size ∧ cur.toList.take (n * sz) = xs)
section
variable {w w' : World} {base e sz n : Nat} {v : Value} {xs : List Value}
theorem Ow.of (h : w.ownsRow base e sz v n xs) : Ow w base e sz v n xs := by
  obtain ⟨h0, h | ⟨g, cap, cur, h1, h2, h3, h4, h5, h6, h7⟩⟩ := h
  · exact ⟨h0, .inl h⟩
  · exact ⟨h0, .inr ⟨g, cap, cur, h1, h2, h3, h4, h5, by omega, h7⟩⟩
theorem Ow.nil (w : World) (base e sz : Nat) : Ow w base e sz (.slice none 0 0) 0 [] := ⟨by simp, .inl ⟨rfl, rfl⟩⟩
theorem Ow.sl (h : Ow w base e sz v n xs) : Sl w v sz n xs := by
  obtain ⟨h0, h | ⟨g, cp, cur, rfl, h1, h2, h3, h4, h5, h6⟩⟩ := h
  · exact ⟨h0, .inl h⟩
  · refine ⟨h0, .inr ⟨g, 0, cp, cur, e, rfl, h3, ⟨_, h2⟩, fun i x hx => ?_⟩⟩
    have hi : i < n * sz := by rw [← h0]; exact (List.getElem?_eq_some_iff.1 hx).1
    rw [← h6, List.getElem?_take_of_lt hi] at hx
    simpa using hx
theorem ow_base (h : Ow w base e sz v n xs) {k : Nat} (hk : v.ownBlock = some k) : base ≤ k := by
  obtain ⟨_, ⟨rfl, _⟩ | ⟨g, cp, cur, rfl, h1, _⟩⟩ := h
  · cases hk
  · injection hk with hk; subst hk; exact h1
theorem Ow.lt (h : Ow w base e sz v n xs) {k : Nat} (hk : v.ownBlock = some k) : k < w.heap.size := h.sl.lt hk
theorem Ow.mono {b : Nat} (h : Ow w base e sz v n xs) (hb : b ≤ base) : Ow w b e sz v n xs := by
  obtain ⟨h0, h | ⟨g, cp, cur, rfl, h1, h2⟩⟩ := h
  · exact ⟨h0, .inl h⟩
  · exact ⟨h0, .inr ⟨g, cp, cur, rfl, Nat.le_trans hb h1, h2⟩⟩
theorem Ow.to (h : Ow w base e sz v n xs) (c : ∀ i, v.ownBlock = some i → Sm w w' i) : Ow w' base e sz v n xs := by
  obtain ⟨h0, h | ⟨g, cp, cur, rfl, h1, h2, h3⟩⟩ := h
  · exact ⟨h0, .inl h⟩
  · exact ⟨h0, .inr ⟨g, cp, cur, rfl, h1, ((c g rfl).2 (lt_of_block h2)).trans h2, h3⟩⟩
theorem Ow.set (h : Ow w base e sz v n xs) {i : Nat} (hi : i < xs.length) (u : Value) : Ow (w.setCell (at_ v i) u) base e sz v n (xs.set i u) := by
  obtain ⟨h0, ⟨rfl, rfl⟩ | ⟨g, cp, cur, rfl, h1, h2, h3, h4, h5, h6⟩⟩ := h
  · simp at h0; subst h0; simp at hi
  · have ha : at_ (.slice (some ⟨g, 0, none⟩) n cp) i = ⟨g, i, none⟩ := by simp [at_]
    rw [ha]
    refine ⟨by simp [h0], .inr ⟨g, cp, cur.setIfInBounds i u, rfl, h1, heap_setCell_same w g i cur e u h2, h3, h4, by simpa using h5, ?_⟩⟩
    rw [← h6]
    simp [List.take_set]
theorem Ow.place (h : Ow w base e sz v n xs) {i : Nat} (hi : i < xs.length) : ∃ g cs, at_ v i = ⟨g, i, none⟩ ∧ v.ownBlock = some g ∧ Bk w g cs e ∧ i < cs.size := by
  obtain ⟨h0, ⟨rfl, rfl⟩ | ⟨g, cp, cur, rfl, h1, h2, h3, h4, h5, h6⟩⟩ := h
  · simp at h0; subst h0; simp at hi
  · refine ⟨g, cur, by simp [at_], rfl, .of h2, ?_⟩
    have := congrArg List.length h6
    simp at this
    omega
/-- Its block's type. -/
theorem Ow.bk (h : Ow w base e sz v n xs) {k : Nat} (hk : v.ownBlock = some k) : ∃ cs, Bk w k cs e := by
  obtain ⟨h0, ⟨rfl, rfl⟩ | ⟨g, cp, cur, rfl, h1, h2, _⟩⟩ := h
  · cases hk
  · injection hk with hk; subst hk; exact ⟨cur, .of h2⟩
/-- Cut at j, with no room: still a row of one's own. -/
theorem Ow.cut {v' : Value} {j : Nat} (h : Ow w base e sz v n xs) (hj : j ≤ n) (hv : v' = (match v with | .slice A _ _ => .slice A j j | x => x)) : Ow w base e sz v' j (xs.take (j * sz)) := by
  subst hv
  obtain ⟨h0, ⟨rfl, rfl⟩ | ⟨g, cp, cur, rfl, h1, h2, h3, h4, h5, h6⟩⟩ := h
  · have : j = 0 := by omega
    subst this
    exact ⟨by simp, .inl ⟨rfl, rfl⟩⟩
  · have hm : j * sz ≤ n * sz := Nat.mul_le_mul_right sz hj
    refine ⟨by rw [List.length_take, h0, Nat.min_eq_left hm], .inr ⟨g, j, cur, rfl, h1, h2, Nat.le_refl _, by omega, Nat.le_trans (Nat.mul_le_mul_right sz (by omega)) h5, ?_⟩⟩
    rw [← h6, List.take_take, Nat.min_eq_left hm]
end
theorem sl_one {w : World} {v : Value} {sz n : Nat} {xs : List Value} (h : Sl w v sz n xs) : v.oneCell' = true := by
  obtain ⟨A, c, rfl, _⟩ := h.len; rfl
theorem own_one {w : World} {v : Value} {base e sz n : Nat} {xs : List Value} (h : w.ownsRow base e sz v n xs) : v.oneCell' = true := sl_one (Sl.own h)
theorem ow_one {w : World} {v : Value} {base e sz n : Nat} {xs : List Value} (h : Ow w base e sz v n xs) : v.oneCell' = true := sl_one h.sl
/-- Blocks of these types, from base on. -/
def Tb (base : Nat) (w : World) (ts : List TypeId) (j : Nat) : Prop := base ≤ j ∧ ∃ cs t fr, w.heap[j]? = some (.cells cs t fr) ∧ t ∈ ts
theorem Tb.not_bk {base : Nat} {w : World} {ts : List TypeId} {j : Nat} {cs : Array Value} {t : TypeId} (h : Bk w j cs t) (ht : ts.contains t = false) : ¬ Tb base w ts j := by
  rintro ⟨_, cs', t', fr', h1, h2⟩
  obtain ⟨fr, h3, _⟩ := h
  rw [h3] at h1
  injection h1 with h1
  injection h1 with _ h1 _
  subst h1
  rw [← List.contains_iff_mem, ht] at h2
  cases h2
theorem Tb.of_bk {base : Nat} {w : World} {ts : List TypeId} {j : Nat} {cs : Array Value} {t : TypeId} (h : Bk w j cs t) (ht : t ∈ ts) (hb : base ≤ j) : Tb base w ts j := by
  obtain ⟨fr, h3, _⟩ := h
  exact ⟨hb, cs, t, fr, h3, ht⟩
theorem Bk.sm {w w' : World} {j : Nat} {cs : Array Value} {t : TypeId} (h : Bk w j cs t) (e : w'.heap[j]? = w.heap[j]?) : Bk w' j cs t := by
  obtain ⟨fr, h3, k⟩ := h
  exact ⟨fr, e.trans h3, k⟩
theorem Sm.stepT {S : Nat → Prop} {w w1 w2 : World} {i : Nat} (c : Ch S w1 w2) (hS : i < w.heap.size → w1.heap[i]? = w.heap[i]? → ¬ S i) (h : Sm w w1 i) : Sm w w2 i :=
  ⟨Nat.le_trans h.1 c.size, fun hi => (c.blk i (Nat.lt_of_lt_of_le hi h.1) (hS hi (h.2 hi))).trans (h.2 hi)⟩
theorem bk_not {w w1 : World} {base b : Nat} {ts : List TypeId} {cs : Array Value} {t : TypeId} (h : Bk w b cs t) (e : w1.heap[b]? = w.heap[b]?) (ht : ts.contains t = false) : ¬ Tb base w1 ts b := Tb.not_bk (h.sm e) ht
theorem own_not {w w1 : World} {base base' e sz n i : Nat} {v : Value} {xs : List Value} {ts : List TypeId} (h : w.ownsRow base e sz v n xs) (hi : v.ownBlock = some i) (he : w1.heap[i]? = w.heap[i]?) (ht : ts.contains e = false) : ¬ Tb base' w1 ts i := by
  obtain ⟨cs, hb⟩ := (Ow.of h).bk hi
  exact bk_not hb he ht
theorem ow_not {w w1 : World} {base base' e sz n i : Nat} {v : Value} {xs : List Value} {ts : List TypeId} (h : Ow w base e sz v n xs) (hi : v.ownBlock = some i) (he : w1.heap[i]? = w.heap[i]?) (ht : ts.contains e = false) : ¬ Tb base' w1 ts i := by
  obtain ⟨cs, hb⟩ := h.bk hi
  exact bk_not hb he ht
end Go.Proofs.YtioonbfinnigpaaGreatDoor
