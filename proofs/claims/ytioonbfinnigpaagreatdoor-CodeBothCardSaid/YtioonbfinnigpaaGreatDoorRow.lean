/- Rows of one's own that may have been cut, structs in rows, nil, what stays by its blocks' types; over any program. -/
import Derived.Test.YtioonbfinnigpaaGreatDoorMem
import Derived.Laws.Tables
import Derived.Laws.Cover3
import Derived.Laws.Pointers
namespace Go.Proofs.YtioonbfinnigpaaGreatDoor
open Go Go.RowKit
set_option linter.unusedVariables false
set_option linter.unusedSimpArgs false
/-! appending to such a row -/
section
variable {P : Program} {w : World} {f : Fr} {ty : TypeId} {pos : String} {af : Array Edge} {g : Option (Nat × Bool)} {v u : Value} {sz n m : Nat} {xs ys : List Value}
theorem ap_none {t e base : Nat} (ht : P.underlying t = some (.slice e)) (hi : (P.info? e).isSome = true) (h : Ow w base e sz v n xs) : (Builtin.append_ #[t, t] ty #[v, .slice none 0 0]).run P w = .ok v w := by
  obtain ⟨i, hi⟩ := Option.isSome_iff_exists.1 hi
  obtain ⟨_, ⟨rfl, rfl⟩ | ⟨g, cap, cur, rfl, _, _, hnc, _⟩⟩ := h
  · simp [Builtin.append_, run_underlying ht, sizeOf, typeInfo, hi, Builtin.lenOf, Builtin.firstCells]
  · simp [Builtin.append_, run_underlying ht, sizeOf, typeInfo, hi, Builtin.lenOf, Builtin.firstCells, hnc, storeCells]
theorem ap_ow {t e base bytes : Nat} {z : Value} (ht : P.underlying t = some (.slice e)) (hinfo : (P.info? e).map (fun i => (i.zero, i.size, i.bytes)) = some (some z, sz, bytes)) (hzs : z.cells.size = sz) (hsz : 0 < sz)
    (hown : Ow w base e sz v n xs) (hu : Sl w u sz m ys) (h1 : ∀ y ∈ ys, y.oneCell' = true) (h63 : n + m ≤ maxLen) (hby : (n + m) * bytes ≤ 140737488355328) (hb : base ≤ w.heap.size) :
    ∃ v' w', (Builtin.append_ #[t, t] ty #[v, u]).run P w = .ok v' w' ∧ Ow w' base e sz v' (n + m) (xs ++ ys) ∧ Ch (fun j => v.ownBlock = some j) w w' ∧ (∀ j, v'.ownBlock = some j → v.ownBlock = some j ∨ j = w.heap.size) := by
  obtain ⟨i, hi, hz0, hz1, hz2⟩ := info_parts hinfo
  obtain ⟨hu0, ⟨rfl, rfl⟩ | ⟨b, o, cu, cs, t', rfl, h2, h3, h4⟩⟩ := hu
  · have : ys = [] := List.eq_nil_of_length_eq_zero (by simpa using hu0)
    subst this
    exact ⟨v, w, ap_none ht (by rw [hi]; rfl) hown, by simpa using hown, Ch.refl w, fun j hj => .inl hj⟩
  obtain ⟨hx0, ⟨rfl, rfl⟩ | ⟨gb, cap, cur, rfl, k1, k2, k3, k4, k5, k6⟩⟩ := hown
  · have : xs = [] := List.eq_nil_of_length_eq_zero (by simpa using hx0)
    subst this
    obtain ⟨v', w', h5, h6, h7⟩ := ap_own (ty := ty) (w := w) (base := w.heap.size) (v := .slice none 0 0) (n := 0) (xs := []) ht hinfo hzs hsz (Own.nil w _ e sz) (u := .slice (some ⟨b, o, none⟩) m cu) (ys := ys) ⟨hu0, .inr ⟨b, o, cu, cs, t', rfl, h2, h3, h4⟩⟩ h1 h63 hby (Nat.le_refl _)
    refine ⟨v', w', h5, (Ow.of h6).mono hb, (Ch.of_grown h7).mono (fun i _ hi => by simp [Value.ownBlock] at hi), fun j hj => ?_⟩
    have h8 := own_base h6 hj
    have h9 := own_lt h6 hj
    refine .inr ?_
    -- the append to nothing lays one block
    have hm : 0 < m ∨ m = 0 := by omega
    rcases hm with hm | rfl
    · have hr := run_append_nil (P := P) w t ty e i z ht hi hz0 ⟨b, o, none⟩ m cu ys (by rw [hz1]; exact hu0) (fun j y hj => by rw [add_lit, h3.cell]; exact h4 j y hj) hm (by simp only [maxLen] at h63; omega) (by rw [hz2]; simp only [Nat.zero_add] at hby; omega)
      rw [hr] at h5
      injection h5 with h5 h5'
      subst h5
      injection hj with hj
      exact hj.symm
    · have : ys = [] := List.eq_nil_of_length_eq_zero (by simpa using hu0)
      subst this
      have hr : (Builtin.append_ #[t, t] ty #[.slice none 0 0, .slice (some ⟨b, o, none⟩) 0 cu]).run P w = .ok (.slice none 0 0) w := by
        simp [Builtin.append_, run_underlying ht, sizeOf, typeInfo, hi, Builtin.lenOf, Builtin.firstCells, loadCells, loadCellsFrom]
      rw [hr] at h5
      injection h5 with h5 h5'
      subst h5
      cases hj
  · have hsl : Sl w (.slice (some ⟨gb, 0, none⟩) n cap) sz n xs := Ow.sl (base := gb) (e := e) ⟨hx0, .inr ⟨gb, cap, cur, rfl, Nat.le_refl _, k2, k3, k4, k5, k6⟩⟩
    have hlen : (xs ++ ys).length = (n + m) * sz := by rw [List.length_append, hx0, hu0, Nat.add_mul]
    by_cases hroom : n + m ≤ cap
    · have hfit : n * sz + ys.length ≤ cur.size := by rw [hu0, ← Nat.add_mul]; exact Nat.le_trans (Nat.mul_le_mul_right _ hroom) k5
      have hr := run_append_room (P := P) w t ty e i ht hi gb n cap cur k2 ⟨b, o, none⟩ m cu ys (by rw [hz1]; exact hu0) (fun j y hj => by rw [add_lit, h3.cell]; exact h4 j y hj) h1 hroom (by rw [hz1]; exact hfit)
      rw [hz1] at hr
      refine ⟨_, _, hr, ⟨hlen, .inr ⟨gb, cap, _, rfl, k1, setRow_heap w gb cur _ e _ k2, hroom, k4, ?_, ?_⟩⟩, (Ch.setRow w gb _).mono fun j _ hj => by simp [Value.ownBlock, show j = gb from hj], fun j hj => .inl hj⟩
      · simp only [List.size_toArray, List.length_append, List.length_take, List.length_drop, Array.length_toList]
        omega
      · rw [k6, ← hlen]
        exact List.take_left
    · have hnm : cap < n + m := by omega
      have hfit := growslice_fits hnm hby
      unfold maxLen at h63
      have hrun := run_append_grow (P := P) w t ty e i z ht hi hz0 ⟨gb, 0, none⟩ n cap xs (by rw [hz1]; exact hx0) (fun j y hj => by
          have := hsl.cell hj
          rw [add_lit]
          simpa [at_] using this) ⟨b, o, none⟩ m cu ys (by rw [hz1]; exact hu0) (fun j y hj => by rw [add_lit, h3.cell]; exact h4 j y hj) hnm (by omega) (by rw [hz2]; exact hfit)
      refine ⟨_, _, hrun, ?_, ((Ch.drew w).trans (Ch.alloc w.drew _)).nw, fun j hj => .inr ?_⟩
      · have hcap : n + m ≤ grownCap w (n + m) cap e := grownCap_ge w _ _ _
        have hcap2 : grownCap w (n + m) cap e ≤ maxLen := grownCap_le_maxLen w _ _ _ (by unfold maxLen; exact h63)
        refine ⟨hlen, .inr ⟨w.heap.size, _, _, rfl, hb, heap_alloc_new w.drew _, hcap, hcap2, ?_, ?_⟩⟩
        · have hzz : (Builtin.zeroCells z.cells (grownCap w (n + m) cap e - (n + m))).size = (grownCap w (n + m) cap e - (n + m)) * sz := by simp [Builtin.zeroCells, hzs]
          simp only [Array.size_append, List.size_toArray, hx0, hu0, hzz]
          rw [← Nat.add_mul, ← Nat.add_mul]
          exact Nat.mul_le_mul_right _ (by omega)
        · rw [← hlen]
          simp only [Array.toList_append, List.append_assoc]
          rw [← List.append_assoc, List.take_left']
          simp
      · injection hj with hj
        exact hj.symm
variable {d k : Nat} {ops : Array Oper} {rest : List Oper} {N : Cn} {X : Nat → Cn} {R : Cn} {S : World → Prop} {kk fuel i : Nat} {listed : Array Bool}
theorem L_apow {s x : Operand} {t e base bytes : Nat} {z : Value} (ht : P.underlying t = some (.slice e)) (hinfo : (P.info? e).map (fun i => (i.zero, i.size, i.bytes)) = some (some z, sz, bytes)) (hzs : z.cells.size = sz) (hsz : 0 < sz)
    (hw : Wants ops f ⟨some d, .call { callee := .builtin .append, args := #[s, x], argTypes := #[t, t] }, ty, pos, af, g⟩) (hn : Nat.blt d k = true) (hs : ev f s = v) (hx : ev f x = u)
    (hown : Ow w base e sz v n xs) (hu : Sl w u sz m ys) (h1 : ∀ y ∈ ys, y.oneCell' = true) (h63 : n + m ≤ maxLen) (hby : (n + m) * bytes ≤ 140737488355328) (hb : base ≤ w.heap.size)
    (h : ∀ v' w1, Ow w1 base e sz v' (n + m) (xs ++ ys) → Ch (fun j => v.ownBlock = some j) w w1 → (∀ j, v'.ownBlock = some j → v.ownBlock = some j ∨ j = w.heap.size) → Wl P k ops rest N (upd f d v') w1) :
    Wl P k ops (⟨some d, .call { callee := .builtin .append, args := #[s, x], argTypes := #[t, t] }, ty, pos, af, g⟩ :: rest) N f w := by
  obtain ⟨v', w', h2, h3, h4, h5⟩ := ap_ow (ty := ty) ht hinfo hzs hsz hown hu h1 h63 hby hb
  exact L_run hw rfl hn (r_append hs hx h2) (h v' w' h3 h4 h5)
/-- A store into such a row. -/
theorem L_setOw {e base : Nat} {x y : Operand} {t : TypeId} {i : Nat} {u : Value} (hw : Wants ops f ⟨none, .store t x y, ty, pos, af, g⟩) (ht : (P.info? t).map (·.size) = some 1) (hx : ev f x = .pointer (some (at_ v i))) (hy : ev f y = u) (h1 : u.oneCell' = true) (hown : Ow w base e sz v n xs) (hi : i < xs.length)
    (h : ∀ w1, Ow w1 base e sz v n (xs.set i u) → w1.heap.size = w.heap.size → Ch (fun j => v.ownBlock = some j) w w1 → Wl P k ops rest N f w1) : Wl P k ops (⟨none, .store t x y, ty, pos, af, g⟩ :: rest) N f w := by
  obtain ⟨b, cs, ha, hb, hbk, hlt⟩ := Ow.place hown hi
  have hr := r_store (P := P) (ty := ty) (pos := pos) (af := af) (g := g) (dst := none) ht (by rw [hx, ha]) hy h1 hbk hlt
  rw [← ha] at hr
  refine L_do hw rfl hr (h _ (Ow.set hown hi u) (by simp [World.setCell]) ?_)
  rw [ha]
  refine (Ch.set w ⟨b, i, none⟩ u).mono fun j _ hj => ?_
  have hj2 : j = b := hj
  rw [hj2]; exact hb
end
section
variable {P : Program} {w : World} {f : Fr} {ty : TypeId} {pos : String} {af : Array Edge} {g : Option (Nat × Bool)} {v : Value} {n e sz d base e' : Nat} {xs : List Value} {x : Operand} {t : TypeId} {j m : Int}
theorem cut_hm_ow {z : Operand} {q : Operand} (hu : P.underlying t = some (.slice e)) (hz : (P.info? e).map (·.size) = some sz) (hx : ev f x = v) (h : Ow w base e' sz v n xs) (hz2 : ev f z = .int .i64 j) (hq : ev f q = .int .i64 m) (h0 : 0 ≤ j) (h1 : j ≤ n) (h2 : m = j) :
    ∃ v', (∀ w', (execOp (ev f) ⟨some d, .slice t x none (some z) (some q), ty, pos, af, g⟩).run P w' = .ok (.value v') w') ∧ (Ow w base e' sz v' j.toNat (xs.take (j.toNat * sz)) ∧ v'.ownBlock = v.ownBlock) := by
  obtain ⟨A, c, rfl, hc⟩ := h.sl.len
  obtain ⟨inf, hi1, hi2⟩ := Option.map_eq_some_iff.1 hz
  have he : P.elem t = e := by simp [Program.elem, hu]
  have hv : sliced A 0 j.toNat m.toNat sz = .slice A j.toNat j.toNat := by
    have hm : m.toNat = j.toNat := by omega
    obtain ⟨_, ⟨hv, _⟩ | ⟨gb, cp, cur, hv, _⟩⟩ := h
    · injection hv with hA hn _; subst hA hn
      have : j.toNat = 0 := by omega
      simp [sliced, hm, this]
    · injection hv with hA _ _; subst hA
      unfold sliced
      split
      · rw [hm]; simp
      · simp [hm, add_lit]
  refine ⟨sliced A 0 j.toNat m.toNat sz, fun w => ?_, ?_, ?_⟩
  · have := run_slice_hm w t A n c (by rw [he]; exact hu) .i64 .i64 j m h0 (by omega) (by omega)
    simp [execOp, hx, hz2, hq, run_sliceAt_slice w t _ _ _ _ (by rw [he]; exact hu), this, he, sizeOf, typeInfo, hi1, hi2]
  · rw [hv]; exact h.cut (by omega) rfl
  · rw [hv]; cases A <;> rfl
end
/-! an operation that is told by what it yields in whatever world -/
section
variable {P : Program} {n : Nat} {ops : Array Oper} {rest : List Oper} {N : Cn} {X : Nat → Cn} {R : Cn} {S : World → Prop} {kk : Nat} {f : Fr} {w : World} {fuel d : Nat} {listed : Array Bool} {o : Oper} {T : Value → Prop} {Z : Fr → Prop}
theorem D_pure (i : Nat) (ho : ops[i]? = some o) (hs : Region.noSelect ops = true) (hf : Region.free .any ops listed i = true) (hr : (Region.ready .any ops listed).contains i = true) (hk : waits .any ops kk i = true)
    (hw : Wants ops f o) (hd : o.dst = some d) (hn : Nat.blt d n = true) (hS : S w) (hex : ∃ v, (∀ w', (execOp (ev f) o).run P w' = .ok (.value v) w') ∧ T v)
    (h : ∀ v, T v → D P n ops N X R S kk fuel (listed.setIfInBounds i true) (upd f d v) w) : D P n ops N X R S kk (fuel + 1) listed f w := by
  obtain ⟨v, h1, h2⟩ := hex
  exact D_take i ho hs hf hr hk hw hd hn hS (fun w _ => h1 w) (h v h2)
theorem L_pure (hw : Wants ops f o) (hd : o.dst = some d) (hn : Nat.blt d n = true) (hex : ∃ v, (∀ w', (execOp (ev f) o).run P w' = .ok (.value v) w') ∧ T v)
    (h : ∀ v, T v → Wl P n ops rest N (upd f d v) w) : Wl P n ops (o :: rest) N f w := by
  obtain ⟨v, h1, h2⟩ := hex
  exact L_run hw hd hn (h1 w) (h v h2)
theorem H_pure (hw : Wants ops f o) (hd : o.dst = some d) (hn : Nat.blt d n = true) (hex : ∃ v, (∀ w', (execOp (ev f) o).run P w' = .ok (.value v) w') ∧ T v)
    (h : ∀ v, T v → Hs P n ops w rest Z (upd f d v)) : Hs P n ops w (o :: rest) Z f := by
  obtain ⟨v, h1, h2⟩ := hex
  exact H_run hw hd hn (h1 w) (h v h2)
end
/-! nil, structs, empty literals -/
section
variable {P : Program} {w : World} {f : Fr} {dst : Option Tmp} {ty : TypeId} {pos : String} {af : Array Edge} {g : Option (Nat × Bool)} {v : Value} {sz n : Nat} {xs : List Value}
def nilS : Value → Bool
  | .slice none _ _ => true
  | _ => false
theorem r_eqnilSl {x y : Operand} {t e : TypeId} (hu : P.underlying t = some (.slice e)) (hx : ev f x = v) (hy : ev f y = .slice none 0 0) (h : Sl w v sz n xs) : (execOp (ev f) ⟨dst, .binOp .eql t x y t, ty, pos, af, g⟩).run P w = .ok (.value (.bool (nilS v))) w := by
  obtain ⟨A, c, rfl, _⟩ := h.len
  have h2 := run_equal_slice_nil (P := P) w t e A n c hu
  have h3 : nilS (.slice A n c) = A.isNone := by cases A <;> rfl
  rw [h3]
  simp [execOp, hx, hy, eqGuard, binOp, h2]
theorem r_nenilSl {x y : Operand} {t e : TypeId} (hu : P.underlying t = some (.slice e)) (hx : ev f x = v) (hy : ev f y = .slice none 0 0) (h : Sl w v sz n xs) : (execOp (ev f) ⟨dst, .binOp .neq t x y t, ty, pos, af, g⟩).run P w = .ok (.value (.bool (!nilS v))) w := by
  obtain ⟨A, c, rfl, _⟩ := h.len
  have h2 := run_equal_slice_nil (P := P) w t e A n c hu
  have h3 : nilS (.slice A n c) = A.isNone := by cases A <;> rfl
  rw [h3]
  simp [execOp, hx, hy, eqGuard, binOp, h2]
theorem nilS_true (h : Sl w v sz n xs) (hn : nilS v = true) : v = .slice none 0 0 ∧ n = 0 := by
  obtain ⟨_, h | ⟨b, o, c, cs, t', rfl, _⟩⟩ := h
  · exact h
  · simp [nilS] at hn
theorem r_eqpnil {x y : Operand} {t e : TypeId} {p : Option Addr} (hu : P.underlying t = some (.pointer e)) (hx : ev f x = .pointer p) (hy : ev f y = .pointer none) : (execOp (ev f) ⟨dst, .binOp .eql t x y t, ty, pos, af, g⟩).run P w = .ok (.value (.bool p.isNone)) w := by
  have h2 := run_equal_pointer_nil (P := P) w t p (by simp [Program.pointee, hu])
  simp [execOp, hx, hy, eqGuard, binOp, h2]
theorem r_nepnil {x y : Operand} {t e : TypeId} {p : Option Addr} (hu : P.underlying t = some (.pointer e)) (hx : ev f x = .pointer p) (hy : ev f y = .pointer none) : (execOp (ev f) ⟨dst, .binOp .neq t x y t, ty, pos, af, g⟩).run P w = .ok (.value (.bool (!p.isNone))) w := by
  have h2 := run_equal_pointer_nil (P := P) w t p (by simp [Program.pointee, hu])
  simp [execOp, hx, hy, eqGuard, binOp, h2]
theorem r_funcL {fn : Go.Fn} {first cap : Array Operand} {l1 l2 : List Value} (h1 : first.toList.map (ev f) = l1) (h2 : cap.toList.map (ev f) = l2) : (execOp (ev f) ⟨dst, .makeFunc fn first cap, ty, pos, af, g⟩).run P w = .ok (.value (.func fn l1.toArray l2.toArray)) w := by
  subst h1 h2
  have e : ∀ a : Array Operand, a.map (ev f) = (a.toList.map (ev f)).toArray := fun a => by apply Array.ext'; rw [Array.toList_map]
  exact r_func (e _) (e _)
theorem r_build {t : TypeId} {parts : Array (Nat × Operand)} {cells : Array Value} (h : P.built t (parts.toList.map fun p => (p.1, ev f p.2)) = some cells) : (execOp (ev f) ⟨dst, .build t parts, ty, pos, af, g⟩).run P w = .ok (.value (.agg cells)) w := by
  have h2 := run_build w t (parts.map fun p => (p.1, ev f p.2)) cells (by simpa using h)
  simp [execOp, h2]
/-- One-cell parts laid at their places. -/
def put1 (pl : List (Nat × Nat)) : List (Nat × Value) → List Value → Option (List Value)
  | [], cs => some cs
  | (i, v) :: r, cs => match pl[i]? with
    | some (o, 1) => if o < cs.length then put1 pl r (cs.set o v) else none
    | _ => none
theorem fill_put1 (pl : List (Nat × Nat)) : ∀ (vs : List (Nat × Value)) (cs : Array Value) (out : List Value), (vs.all fun p => p.2.oneCell') = true → put1 pl vs cs.toList = some out →
    Instr.fill (pl.toArray[·]?) cs vs = some out.toArray
  | [], cs, out, _, h => by simp only [put1] at h; injection h with h; subst h; simp [Instr.fill]
  | (i, v) :: r, cs, out, h1, h => by
    simp only [List.all_cons, Bool.and_eq_true] at h1
    have hv : v.cells = #[v] := by
      have := h1.1
      cases v <;> first | rfl | (simp [Value.oneCell'] at this)
    simp only [put1] at h
    split at h
    · rename_i o hpl
      split at h
      · rename_i ho
        have hi : pl.toArray[i]? = some (o, 1) := by simpa using hpl
        have h3 : (decide (v.cells.size ≠ 1) || decide (o + v.cells.size > cs.size)) = false := by
          simp only [hv, Array.length_toList] at ho ⊢
          simp; omega
        have h4 : v.cells.zipIdx.foldl (fun cs (x : Value × Nat) => cs.setIfInBounds (o + x.2) x.1) cs = cs.setIfInBounds o v := by rw [hv]; simp [Array.zipIdx]
        have ih := fill_put1 pl r (cs.setIfInBounds o v) out h1.2 (by rw [Array.toList_setIfInBounds]; exact h)
        simp only [Instr.fill, hi, h3, Bool.false_eq_true, if_false]
        rw [← ih, ← h4]
      · cases h
    · cases h
theorem r_build1 {t : TypeId} {fs : Array Field} {parts : Array (Nat × Operand)} {z : Array Value} {pl : List (Nat × Nat)} {vs : List (Nat × Value)} {cells : List Value} (hu : P.underlying t = some (.struct fs)) (hz : (P.info? t).bind (·.zero) = some (.agg z))
    (hp : fs.toList.mapM (fun f => (P.info? f.type).map fun i => (f.offset, i.size)) = some pl) (hv : (parts.toList.map fun p => (p.1, ev f p.2)) = vs) (h1 : (vs.all fun p => p.2.oneCell') = true) (hc : put1 pl vs z.toList = some cells) :
    (execOp (ev f) ⟨dst, .build t parts, ty, pos, af, g⟩).run P w = .ok (.value (.agg cells.toArray)) w := by
  refine r_build ?_
  rw [hv]
  unfold Program.built
  cases hi : P.info? t with
  | none => rw [hi] at hz; cases hz
  | some it =>
    rw [hi] at hz
    simp only [Option.bind_some] at hz
    simp only [hu, hz, hp]
    exact fill_put1 pl vs z cells h1 hc
theorem foldSet : ∀ (v : List Value) (n off : Nat) (cur : List Value), off + n + v.length ≤ cur.length →
    (v.zipIdx n).foldl (fun (cs : Array Value) (x : Value × Nat) => cs.setIfInBounds (off + x.2) x.1) cur.toArray = (cur.take (off + n) ++ v ++ cur.drop (off + n + v.length)).toArray
  | [], n, off, cur, h => by simp
  | x :: v, n, off, cur, h => by
    simp only [List.length_cons] at h
    simp only [List.zipIdx_cons, List.foldl_cons, List.setIfInBounds_toArray]
    rw [foldSet v (n + 1) off (cur.set (off + n) x) (by simp; omega)]
    congr 1
    have a1 : (cur.set (off + n) x).take (off + (n + 1)) = cur.take (off + n) ++ [x] := by
      rw [show off + (n + 1) = off + n + 1 by omega, List.take_add_one, List.take_set_of_le (Nat.le_refl _)]
      simp [show off + n < cur.length by omega]
    have a2 : (cur.set (off + n) x).drop (off + (n + 1) + v.length) = cur.drop (off + n + (v.length + 1)) := by
      rw [List.drop_set_of_lt (by omega)]; congr 1; omega
    rw [a1, a2]
    simp
theorem fill_rows {sz : Nat} : ∀ (vs : List (List Value)) (k : Nat) (cur : List Value), (vs.all fun v => v.length == sz) = true → (k + vs.length) * sz ≤ cur.length →
    Instr.fill (fun i => some (i * sz, sz)) cur.toArray ((List.range' k vs.length).zip (vs.map fun v => .agg v.toArray)) = some (cur.take (k * sz) ++ vs.flatten ++ cur.drop ((k + vs.length) * sz)).toArray
  | [], k, cur, _, _ => by simp [Instr.fill]
  | v :: vs, k, cur, h1, hl => by
    simp only [List.all_cons, Bool.and_eq_true, beq_iff_eq] at h1
    simp only [List.length_cons] at hl
    have hk : k * sz + sz + vs.length * sz ≤ cur.length := by
      have : (k + (vs.length + 1)) * sz = k * sz + sz + vs.length * sz := by rw [Nat.add_mul, Nat.add_mul, Nat.one_mul]; omega
      omega
    have h2 : (Value.agg v.toArray).cells.size = sz := by show v.toArray.size = sz; simp [h1.1]
    have h3 : (decide ((Value.agg v.toArray).cells.size ≠ sz) || decide (k * sz + (Value.agg v.toArray).cells.size > cur.toArray.size)) = false := by
      rw [h2]; simp; omega
    simp only [List.length_cons, List.range'_succ, List.map_cons, List.zip_cons_cons, Instr.fill, h3, Bool.false_eq_true, if_false]
    have h4 : (Value.agg v.toArray).cells.zipIdx.foldl (fun (cs : Array Value) (x : Value × Nat) => cs.setIfInBounds (k * sz + x.2) x.1) cur.toArray = (cur.take (k * sz) ++ v ++ cur.drop (k * sz + sz)).toArray := by
      have := foldSet v 0 (k * sz) cur (by omega)
      rw [Nat.add_zero, h1.1] at this
      rw [← this]
      show (v.toArray.zipIdx).foldl _ _ = _
      simp
    have h5 := fill_rows (sz := sz) vs (k + 1) (cur.take (k * sz) ++ v ++ cur.drop (k * sz + sz)) h1.2 (by
      simp only [List.length_append, List.length_take, List.length_drop, h1.1]
      rw [show k + 1 + vs.length = k + (vs.length + 1) by omega]
      omega)
    refine Eq.trans ?_ (h5.trans ?_)
    · rw [← h4]
    · congr 2
      have hlen : (cur.take (k * sz) ++ v).length = (k + 1) * sz := by
        simp only [List.length_append, List.length_take, h1.1, Nat.add_mul, Nat.one_mul]; omega
      have a1 : (cur.take (k * sz) ++ v ++ cur.drop (k * sz + sz)).take ((k + 1) * sz) = cur.take (k * sz) ++ v := List.take_left' hlen
      have a2 : (cur.take (k * sz) ++ v ++ cur.drop (k * sz + sz)).drop ((k + 1 + vs.length) * sz) = cur.drop ((k + (vs.length + 1)) * sz) := by
        rw [show (k + 1 + vs.length) * sz = (k + 1) * sz + vs.length * sz by rw [Nat.add_mul (k + 1)], ← List.drop_drop, List.drop_left' hlen, List.drop_drop]
        congr 1
        rw [Nat.add_mul, Nat.add_mul, Nat.one_mul]; omega
      rw [a1, a2]
      simp
theorem r_fieldv {s : TypeId} {x : Operand} {fs : Array Field} {fd : Field} {i : Nat} {cs : Array Value} {u : Value} (hu : P.underlying s = some (.struct fs)) (hf : fs[i]? = some fd) (hx : ev f x = .agg cs) (ht : flat P fd.type = true) (hv : cs[fd.offset]? = some u) : (execOp (ev f) ⟨dst, .field s x i, ty, pos, af, g⟩).run P w = .ok (.value u) w := by
  have h2 : (asAgg (Value.agg cs)).run P w = .ok cs w := rfl
  simp [execOp, hx, Instr.field, run_underlying hu, hf, part, isAgg_flat ht, h2, hv]
variable {d k : Nat} {ops : Array Oper} {rest : List Oper} {N : Cn}
/-- A literal slice of one-cell elements, as a row of one's own. -/
theorem L_build1o {t e len bytes : Nat} {parts : Array (Nat × Operand)} (vs : List Value) {z : Value} (ht : P.underlying t = some (.slice e)) (hinfo : (P.info? e).map (fun i => (i.zero, i.size, i.bytes)) = some (some z, 1, bytes)) (hl : Nat.ble 1 len = true) (hl2 : Nat.ble len 16777216 = true)
    (hw : Wants ops f ⟨some d, .buildSlice t len parts, ty, pos, af, g⟩) (hn : Nat.blt d k = true)
    (hi : parts.toList.map (·.1) = List.range' 0 len) (hv : parts.toList.map (fun p => ev f p.2) = vs) (h1 : vs.all (·.oneCell') = true)
    (h : ∀ v w1, w1.ownsRow w.heap.size e 1 v len vs → v.ownBlock = some w.heap.size → w1.heap.size = w.heap.size + 1 → Nw w w1 → Wl P k ops rest N (upd f d v) w1) :
    Wl P k ops (⟨some d, .buildSlice t len parts, ty, pos, af, g⟩ :: rest) N f w := by
  have hlen : vs.length = len := by
    have := congrArg List.length hi
    rw [← hv]; simpa using this
  have h02 := Nat.le_of_ble_eq_true hl2
  exact L_run hw rfl hn (build_one ht hinfo hl hl2 hi hv h1) (h _ _ ⟨by simp [hlen], .inr ⟨w.heap.size, len, vs.toArray, rfl, Nat.le_refl _, heap_alloc_new w _, Nat.le_refl _, by unfold maxLen; omega, by simp [hlen], by simp [← hlen]⟩⟩ rfl (by simp) (Ch.alloc w _))
/-- A literal slice of structs. -/
theorem L_buildrow {t e len bytes m : Nat} {parts : Array (Nat × Operand)} (vs : List (List Value)) {z : Value} (ht : P.underlying t = some (.slice e)) (hinfo : (P.info? e).map (fun i => (i.zero, i.size, i.bytes)) = some (some z, m, bytes)) (hl : Nat.ble 1 (len * m) = true) (hl2 : Nat.ble (len * m) 16777216 = true)
    (hw : Wants ops f ⟨some d, .buildSlice t len parts, ty, pos, af, g⟩) (hn : Nat.blt d k = true)
    (hi : parts.toList.map (·.1) = List.range' 0 len) (hv : parts.toList.map (fun p => ev f p.2) = vs.map (fun v => .agg v.toArray)) (h1 : (vs.all fun v => v.length == m) = true)
    (h : ∀ b w1, Bk w1 b vs.flatten.toArray e → Sl w1 (.slice (some ⟨b, 0, none⟩) len len) m len vs.flatten → b = w.heap.size → w1.heap.size = b + 1 → Nw w w1 → Wl P k ops rest N (upd f d (.slice (some ⟨b, 0, none⟩) len len)) w1) :
    Wl P k ops (⟨some d, .buildSlice t len parts, ty, pos, af, g⟩ :: rest) N f w := by
  have hlen : vs.length = len := by
    have h3 := congrArg List.length hi
    have h4 := congrArg List.length hv
    simp only [List.length_map, List.length_range'] at h3 h4
    omega
  have h0 := Nat.le_of_ble_eq_true hl
  have h02 := Nat.le_of_ble_eq_true hl2
  have hfl : ∀ vs : List (List Value), (vs.all fun v => v.length == m) = true → vs.flatten.length = vs.length * m := by
    intro vs
    induction vs with
    | nil => intro _; simp
    | cons v vs ih =>
      intro h
      simp only [List.all_cons, Bool.and_eq_true, beq_iff_eq] at h
      simp only [List.flatten_cons, List.length_append, List.length_cons, ih h.2, h.1, Nat.add_mul, Nat.one_mul]; omega
  have hr : (execOp (ev f) ⟨some d, .buildSlice t len parts, ty, pos, af, g⟩).run P w = .ok (.value (.slice (some ⟨w.heap.size, 0, none⟩) len len)) (w.alloc (.cells vs.flatten.toArray e)) := by
    refine r_buildSlice ht hinfo (by omega) (by omega) ?_
    have hz : (parts.map fun (i, x) => (i, ev f x)).toList = (List.range' 0 vs.length).zip (vs.map fun v => .agg v.toArray) := by
      rw [hlen, ← hi, ← hv]
      simp [List.zip_map']
    have h5 := fill_rows (sz := m) vs 0 ((Array.range (len * m)).map (z.cells[· % z.cells.size]!)).toList h1 (by simp [hlen])
    rw [hz]
    rw [Array.toArray_toList] at h5
    rw [h5]
    simp [hlen]
  exact L_run hw rfl hn hr (h _ _ (Bk.new w _ _) ⟨by rw [hfl vs h1, hlen], .inr ⟨_, 0, _, _, _, rfl, Nat.le_refl _, (Bk.new w _ _).rk, fun i x hx => by simpa using hx⟩⟩ rfl (by simp) (Ch.alloc w _))
/-- A literal slice of nothing. -/
theorem L_build0 {t e : TypeId} (ht : P.underlying t = some (.slice e)) (hi : (P.info? e).isSome = true) (hw : Wants ops f ⟨some d, .buildSlice t 0 #[], ty, pos, af, g⟩) (hn : Nat.blt d k = true)
    (h : ∀ v w1, w1.ownsRow w.heap.size e sz v 0 [] → v.ownBlock = some w.heap.size → nilS v = false → w1.heap.size = w.heap.size + 1 → Nw w w1 → Wl P k ops rest N (upd f d v) w1) :
    Wl P k ops (⟨some d, .buildSlice t 0 #[], ty, pos, af, g⟩ :: rest) N f w := by
  obtain ⟨i, hi⟩ := Option.isSome_iff_exists.1 hi
  have hr : (execOp (ev f) ⟨some d, .buildSlice t 0 #[], ty, pos, af, g⟩).run P w = .ok (.value (.slice (some ⟨w.heap.size, 0, none⟩) 0 0)) (w.alloc (.cells #[] e)) := by
    simp [execOp, Instr.buildSlice, run_underlying ht, sizeOf, typeInfo, hi, Instr.fill, newRow]
    congr 2
    exact Array.eq_empty_of_size_eq_zero (by simp)
  refine L_run hw rfl hn hr (h _ _ ⟨by simp, .inr ⟨w.heap.size, 0, #[], rfl, Nat.le_refl _, heap_alloc_new w _, Nat.le_refl _, by unfold maxLen; omega, by simp, by simp⟩⟩ rfl rfl (by simp) (Ch.alloc w _))
end
theorem r_ret_row3 {P : Program} {w : World} {f : Fr} {fn : Func} {T : Value → World → Prop} {p i j k : Nat} {t e : TypeId} {b : Nat} {cs : Array Value} {dd : TypeDesc} {u v x : Value} (hr : fn.results = #[.cell p t, .tmp i, .tmp j, .tmp k]) (hp : f p = .pointer (some ⟨b, 0, none⟩)) (hu : P.underlying t = some dd) (hd : (match dd with | .struct _ | .array _ _ => true | _ => false) = true) (hb : Bk w b cs e) (hi : (P.info? t).map (·.size) = some cs.size)
    (h1 : f i = u) (h2 : f j = v) (h3 : f k = x) (h : T (.tuple #[.agg cs, u, v, x]) w) : Rt P fn T f w := fun tm ht => by
  obtain ⟨fr, hb, _⟩ := hb
  have hp' : tm[p]?.getD undef = .pointer (some ⟨b, 0, none⟩) := by have := ht p; rw [hp] at this; simpa using this
  have e1 : tm[i]?.getD undef = u := by have := ht i; rw [h1] at this; simpa using this
  have e2 : tm[j]?.getD undef = v := by have := ht j; rw [h2] at this; simpa using this
  have e3 : tm[k]?.getD undef = x := by have := ht k; rw [h3] at this; simpa using this
  refine ⟨.tuple #[.agg cs, u, v, x], ?_, h⟩
  simp [results, hr, hp', e1, e2, e3, asAddr, run_loadVar_row w b e t cs fr dd hb hu hd hi]
/-! changes by the blocks' types -/
theorem Ow.tb {w w' : World} {base b0 e sz n : Nat} {v : Value} {xs : List Value} {ts : List TypeId} (h : Ow w base e sz v n xs) (c : Ch (Tb b0 w ts) w w') (ht : ts.contains e = false) : Ow w' base e sz v n xs :=
  h.to fun i hi => Sm.step c (fun _ => ow_not h hi rfl ht) (Sm.refl _ _)
theorem Ow.nw {w w' : World} {base e sz n : Nat} {v : Value} {xs : List Value} (h : Ow w base e sz v n xs) (c : Nw w w') : Ow w' base e sz v n xs :=
  h.to fun i hi => Sm.step c (fun _ => not_no) (Sm.refl _ _)
theorem ch_own {w w' : World} {base e sz n : Nat} {v : Value} {xs : List Value} (h : Ow w base e sz v n xs) (c : Ch (fun j => v.ownBlock = some j) w w') : Ch (Tb base w [e]) w w' :=
  c.mono fun i _ hi => by
    obtain ⟨cs, hb⟩ := h.bk hi
    exact Tb.of_bk hb (by simp) (ow_base h hi)
/-! What the walks ask for again and again: what is told of an older world is brought to this one; what is left out is found by tactics where a law is used. -/
section
variable {w w' : World} {base b e sz n i : Nat} {v : Value} {xs : List Value} {cs : Array Value} {t : TypeId}
theorem Ch.au {T : Nat → Prop} (h : Ch T w w' := by repeat (first | exact Ch.refl _ | assumption | (refine Ch.fresh ?_ (by assumption) (by intro i hi he; first | exact he | exact (not_no he).elim | exact Or.inl he | exact Or.inr (Or.inl he) | exact Or.inr (Or.inr he) | (exfalso; have he2 : _ = some i := he; have := own_base (by assumption) he2; omega) | (exfalso; have he2 : i = _ := he; omega) | (exfalso; have he2 : _ = some i := he; have := ow_base (by assumption) he2; omega) | (exfalso; have := he.1; omega) | (exfalso; have he2 : _ = some i := he; have := hlo _ he2; omega) | exact Or.inr he | (rcases he with he | he <;> (first | exact he | exact Or.inl he | exact Or.inr he | (exfalso; have he2 : i = _ := he; omega))))))) : Ch T w w' := h
theorem Sm.au (h : Sm w w' i := by repeat (first | exact Sm.refl _ _ | (refine Sm.stepT (by assumption) (by intro hlt hsm; first | exact not_no | (intro he; have he2 : _ = some _ := he; have := own_base (by assumption) he2; omega) | (intro he; have he2 : _ = _ := he; omega) | (intro he; have he2 : _ = some _ := he; have := ow_base (by assumption) he2; omega) | (intro he; have := he.1; omega) | exact bk_not (by assumption) hsm rfl | exact mp_not (by assumption) hsm | exact bkm_not (by assumption) hsm rfl | exact ownm_not (by assumption) hi hsm rfl | exact owm_not (by assumption) hi hsm rfl | exact own_not (by assumption) hi hsm rfl | exact ow_not (by assumption) hi hsm rfl | (intro he; have he2 : _ = some _ := he; have := Ow.lt (by assumption) he2; omega) | (intro he; have he2 : _ = some _ := he; have := Ow.lt (by assumption) he2; have := own_base (by assumption) hi; omega) | (intro he; have he2 : _ = some _ := he; have := Ow.lt how he2; first | omega | (have := own_base (by assumption) hi; omega)) | (intro he; have he2 : _ = _ := he; have := Ow.lt how hi; omega) | (intro he; have he2 : _ = _ := he; have := own_base (by assumption) hi; omega) | (intro he; have he2 : _ = _ := he; have := ow_base (by assumption) hi; omega) | (intro he; have he2 : _ = _ := he; rw [he2] at hi; exact absurd hi (by assumption)) | (intro he; have he2 : _ = some _ := he; have h3 := own_lt (by assumption) he2; first | omega | (have h4 : _ = some _ := hi; simp [Value.ownBlock] at h4; omega)) | (intro he; have he2 : _ = some _ := he; have h3 := ow_base (by assumption) he2; have h4 : _ = some _ := hi; simp [Value.ownBlock] at h4; omega) | (intro he; have he2 : _ = some _ := he; exact absurd he2 (hsep _ hi)) | (intro he; have he2 : _ = _ := he; have := hlo _ hi; omega) | (intro he; have he2 : _ = some _ := he; have := hlo _ he2; omega) | (intro he; first | exact absurd he (by assumption) | exact absurd he.symm (by assumption)) | (intro he; have he2 : _ = _ ∨ _ = _ := he; omega)) ?_))) : Sm w w' i := h
theorem Bk.au (h : Bk w b cs t := by assumption) (c : Sm w w' b := by repeat (first | exact Sm.refl _ _ | (refine Sm.stepT (by assumption) (by intro hlt hsm; first | exact not_no | (intro he; have he2 : _ = some _ := he; have := own_base (by assumption) he2; omega) | (intro he; have he2 : _ = _ := he; omega) | (intro he; have he2 : _ = some _ := he; have := ow_base (by assumption) he2; omega) | (intro he; have := he.1; omega) | exact bk_not (by assumption) hsm rfl | exact mp_not (by assumption) hsm | exact bkm_not (by assumption) hsm rfl | exact ownm_not (by assumption) hi hsm rfl | exact owm_not (by assumption) hi hsm rfl | exact own_not (by assumption) hi hsm rfl | exact ow_not (by assumption) hi hsm rfl | (intro he; have he2 : _ = some _ := he; have := Ow.lt (by assumption) he2; omega) | (intro he; have he2 : _ = some _ := he; have := Ow.lt (by assumption) he2; have := own_base (by assumption) hi; omega) | (intro he; have he2 : _ = some _ := he; have := Ow.lt how he2; first | omega | (have := own_base (by assumption) hi; omega)) | (intro he; have he2 : _ = _ := he; have := Ow.lt how hi; omega) | (intro he; have he2 : _ = _ := he; have := own_base (by assumption) hi; omega) | (intro he; have he2 : _ = _ := he; have := ow_base (by assumption) hi; omega) | (intro he; have he2 : _ = _ := he; rw [he2] at hi; exact absurd hi (by assumption)) | (intro he; have he2 : _ = some _ := he; have h3 := own_lt (by assumption) he2; first | omega | (have h4 : _ = some _ := hi; simp [Value.ownBlock] at h4; omega)) | (intro he; have he2 : _ = some _ := he; have h3 := ow_base (by assumption) he2; have h4 : _ = some _ := hi; simp [Value.ownBlock] at h4; omega) | (intro he; have he2 : _ = some _ := he; exact absurd he2 (hsep _ hi)) | (intro he; have he2 : _ = _ := he; have := hlo _ hi; omega) | (intro he; have he2 : _ = some _ := he; have := hlo _ he2; omega) | (intro he; first | exact absurd he (by assumption) | exact absurd he.symm (by assumption)) | (intro he; have he2 : _ = _ ∨ _ = _ := he; omega)) ?_))) : Bk w' b cs t := Bk.to h c
theorem Mu.au (h : Mu w b v n xs := by assumption) (c : Sm w w' b := by repeat (first | exact Sm.refl _ _ | (refine Sm.stepT (by assumption) (by intro hlt hsm; first | exact not_no | (intro he; have he2 : _ = some _ := he; have := own_base (by assumption) he2; omega) | (intro he; have he2 : _ = _ := he; omega) | (intro he; have he2 : _ = some _ := he; have := ow_base (by assumption) he2; omega) | (intro he; have := he.1; omega) | exact bk_not (by assumption) hsm rfl | exact mp_not (by assumption) hsm | exact bkm_not (by assumption) hsm rfl | exact ownm_not (by assumption) hi hsm rfl | exact owm_not (by assumption) hi hsm rfl | exact own_not (by assumption) hi hsm rfl | exact ow_not (by assumption) hi hsm rfl | (intro he; have he2 : _ = some _ := he; have := Ow.lt (by assumption) he2; omega) | (intro he; have he2 : _ = some _ := he; have := Ow.lt (by assumption) he2; have := own_base (by assumption) hi; omega) | (intro he; have he2 : _ = some _ := he; have := Ow.lt how he2; first | omega | (have := own_base (by assumption) hi; omega)) | (intro he; have he2 : _ = _ := he; have := Ow.lt how hi; omega) | (intro he; have he2 : _ = _ := he; have := own_base (by assumption) hi; omega) | (intro he; have he2 : _ = _ := he; have := ow_base (by assumption) hi; omega) | (intro he; have he2 : _ = _ := he; rw [he2] at hi; exact absurd hi (by assumption)) | (intro he; have he2 : _ = some _ := he; have h3 := own_lt (by assumption) he2; first | omega | (have h4 : _ = some _ := hi; simp [Value.ownBlock] at h4; omega)) | (intro he; have he2 : _ = some _ := he; have h3 := ow_base (by assumption) he2; have h4 : _ = some _ := hi; simp [Value.ownBlock] at h4; omega) | (intro he; have he2 : _ = some _ := he; exact absurd he2 (hsep _ hi)) | (intro he; have he2 : _ = _ := he; have := hlo _ hi; omega) | (intro he; have he2 : _ = some _ := he; have := hlo _ he2; omega) | (intro he; first | exact absurd he (by assumption) | exact absurd he.symm (by assumption)) | (intro he; have he2 : _ = _ ∨ _ = _ := he; omega)) ?_))) : Mu w' b v n xs := Mu.to h c
theorem Sl.au (h : Sl w v sz n xs := by first | assumption | exact Sl.own (by assumption) | exact Mu.sl (by assumption) | exact Ow.sl (by assumption)) (c : ∀ i, v.ownBlock = some i → Sm w w' i := by intro i hi; repeat (first | exact Sm.refl _ _ | (refine Sm.stepT (by assumption) (by intro hlt hsm; first | exact not_no | (intro he; have he2 : _ = some _ := he; have := own_base (by assumption) he2; omega) | (intro he; have he2 : _ = _ := he; omega) | (intro he; have he2 : _ = some _ := he; have := ow_base (by assumption) he2; omega) | (intro he; have := he.1; omega) | exact bk_not (by assumption) hsm rfl | exact mp_not (by assumption) hsm | exact bkm_not (by assumption) hsm rfl | exact ownm_not (by assumption) hi hsm rfl | exact owm_not (by assumption) hi hsm rfl | exact own_not (by assumption) hi hsm rfl | exact ow_not (by assumption) hi hsm rfl | (intro he; have he2 : _ = some _ := he; have := Ow.lt (by assumption) he2; omega) | (intro he; have he2 : _ = some _ := he; have := Ow.lt (by assumption) he2; have := own_base (by assumption) hi; omega) | (intro he; have he2 : _ = some _ := he; have := Ow.lt how he2; first | omega | (have := own_base (by assumption) hi; omega)) | (intro he; have he2 : _ = _ := he; have := Ow.lt how hi; omega) | (intro he; have he2 : _ = _ := he; have := own_base (by assumption) hi; omega) | (intro he; have he2 : _ = _ := he; have := ow_base (by assumption) hi; omega) | (intro he; have he2 : _ = _ := he; rw [he2] at hi; exact absurd hi (by assumption)) | (intro he; have he2 : _ = some _ := he; have h3 := own_lt (by assumption) he2; first | omega | (have h4 : _ = some _ := hi; simp [Value.ownBlock] at h4; omega)) | (intro he; have he2 : _ = some _ := he; have h3 := ow_base (by assumption) he2; have h4 : _ = some _ := hi; simp [Value.ownBlock] at h4; omega) | (intro he; have he2 : _ = some _ := he; exact absurd he2 (hsep _ hi)) | (intro he; have he2 : _ = _ := he; have := hlo _ hi; omega) | (intro he; have he2 : _ = some _ := he; have := hlo _ he2; omega) | (intro he; first | exact absurd he (by assumption) | exact absurd he.symm (by assumption)) | (intro he; have he2 : _ = _ ∨ _ = _ := he; omega)) ?_))) : Sl w' v sz n xs := Sl.to h c
theorem Own.au (h : w.ownsRow base e sz v n xs := by assumption) (c : ∀ i, v.ownBlock = some i → Sm w w' i := by intro i hi; repeat (first | exact Sm.refl _ _ | (refine Sm.stepT (by assumption) (by intro hlt hsm; first | exact not_no | (intro he; have he2 : _ = some _ := he; have := own_base (by assumption) he2; omega) | (intro he; have he2 : _ = _ := he; omega) | (intro he; have he2 : _ = some _ := he; have := ow_base (by assumption) he2; omega) | (intro he; have := he.1; omega) | exact bk_not (by assumption) hsm rfl | exact mp_not (by assumption) hsm | exact bkm_not (by assumption) hsm rfl | exact ownm_not (by assumption) hi hsm rfl | exact owm_not (by assumption) hi hsm rfl | exact own_not (by assumption) hi hsm rfl | exact ow_not (by assumption) hi hsm rfl | (intro he; have he2 : _ = some _ := he; have := Ow.lt (by assumption) he2; omega) | (intro he; have he2 : _ = some _ := he; have := Ow.lt (by assumption) he2; have := own_base (by assumption) hi; omega) | (intro he; have he2 : _ = some _ := he; have := Ow.lt how he2; first | omega | (have := own_base (by assumption) hi; omega)) | (intro he; have he2 : _ = _ := he; have := Ow.lt how hi; omega) | (intro he; have he2 : _ = _ := he; have := own_base (by assumption) hi; omega) | (intro he; have he2 : _ = _ := he; have := ow_base (by assumption) hi; omega) | (intro he; have he2 : _ = _ := he; rw [he2] at hi; exact absurd hi (by assumption)) | (intro he; have he2 : _ = some _ := he; have h3 := own_lt (by assumption) he2; first | omega | (have h4 : _ = some _ := hi; simp [Value.ownBlock] at h4; omega)) | (intro he; have he2 : _ = some _ := he; have h3 := ow_base (by assumption) he2; have h4 : _ = some _ := hi; simp [Value.ownBlock] at h4; omega) | (intro he; have he2 : _ = some _ := he; exact absurd he2 (hsep _ hi)) | (intro he; have he2 : _ = _ := he; have := hlo _ hi; omega) | (intro he; have he2 : _ = some _ := he; have := hlo _ he2; omega) | (intro he; first | exact absurd he (by assumption) | exact absurd he.symm (by assumption)) | (intro he; have he2 : _ = _ ∨ _ = _ := he; omega)) ?_))) : w'.ownsRow base e sz v n xs := Own.to h c
theorem Ow.au (h : Ow w base e sz v n xs := by first | assumption | exact Ow.of (by assumption)) (c : ∀ i, v.ownBlock = some i → Sm w w' i := by intro i hi; repeat (first | exact Sm.refl _ _ | (refine Sm.stepT (by assumption) (by intro hlt hsm; first | exact not_no | (intro he; have he2 : _ = some _ := he; have := own_base (by assumption) he2; omega) | (intro he; have he2 : _ = _ := he; omega) | (intro he; have he2 : _ = some _ := he; have := ow_base (by assumption) he2; omega) | (intro he; have := he.1; omega) | exact bk_not (by assumption) hsm rfl | exact mp_not (by assumption) hsm | exact bkm_not (by assumption) hsm rfl | exact ownm_not (by assumption) hi hsm rfl | exact owm_not (by assumption) hi hsm rfl | exact own_not (by assumption) hi hsm rfl | exact ow_not (by assumption) hi hsm rfl | (intro he; have he2 : _ = some _ := he; have := Ow.lt (by assumption) he2; omega) | (intro he; have he2 : _ = some _ := he; have := Ow.lt (by assumption) he2; have := own_base (by assumption) hi; omega) | (intro he; have he2 : _ = some _ := he; have := Ow.lt how he2; first | omega | (have := own_base (by assumption) hi; omega)) | (intro he; have he2 : _ = _ := he; have := Ow.lt how hi; omega) | (intro he; have he2 : _ = _ := he; have := own_base (by assumption) hi; omega) | (intro he; have he2 : _ = _ := he; have := ow_base (by assumption) hi; omega) | (intro he; have he2 : _ = _ := he; rw [he2] at hi; exact absurd hi (by assumption)) | (intro he; have he2 : _ = some _ := he; have h3 := own_lt (by assumption) he2; first | omega | (have h4 : _ = some _ := hi; simp [Value.ownBlock] at h4; omega)) | (intro he; have he2 : _ = some _ := he; have h3 := ow_base (by assumption) he2; have h4 : _ = some _ := hi; simp [Value.ownBlock] at h4; omega) | (intro he; have he2 : _ = some _ := he; exact absurd he2 (hsep _ hi)) | (intro he; have he2 : _ = _ := he; have := hlo _ hi; omega) | (intro he; have he2 : _ = some _ := he; have := hlo _ he2; omega) | (intro he; first | exact absurd he (by assumption) | exact absurd he.symm (by assumption)) | (intro he; have he2 : _ = _ ∨ _ = _ := he; omega)) ?_))) : Ow w' base e sz v n xs := Ow.to h c
end
section
variable {P : Program} {n : Nat} {ops : Array Oper} {rest : List Oper} {N : Cn} {X : Nat → Cn} {R : Cn} {S : World → Prop} {kk fuel : Nat} {listed : Array Bool} {f : Fr} {w w' : World} {op : Op} {v : Value} {d j : Nat} {b b' : Bool} {ty : TypeId} {pos : String} {af : Array Edge} {Z : Fr → Prop} {dst : Option Tmp} {g : Option (Nat × Bool)}
theorem L_r (hr : (execOp (ev f) ⟨some d, op, ty, pos, af, none⟩).run P w = .ok (.value v) w') (h : Wl P n ops rest N (upd f d v) w') (hn : Nat.blt d n = true := by rfl) : Wl P n ops (⟨some d, op, ty, pos, af, none⟩ :: rest) N f w := L_run (.plain rfl) rfl hn hr h
theorem L_g (hr : (execOp (ev f) ⟨some d, op, ty, pos, af, some (j, b)⟩).run P w = .ok (.value v) w') (h : Wl P n ops rest N (upd f d v) w') (hy : yl ops f j = some b := by rfl) (hn : Nat.blt d n = true := by rfl) : Wl P n ops (⟨some d, op, ty, pos, af, some (j, b)⟩ :: rest) N f w := L_run (.yes j b rfl hy) rfl hn hr h
theorem H_r (hr : (execOp (ev f) ⟨some d, op, ty, pos, af, none⟩).run P w = .ok (.value v) w) (h : Hs P n ops w rest Z (upd f d v)) (hn : Nat.blt d n = true := by rfl) : Hs P n ops w (⟨some d, op, ty, pos, af, none⟩ :: rest) Z f := H_run (.plain rfl) rfl hn hr h
theorem H_g (hr : (execOp (ev f) ⟨some d, op, ty, pos, af, some (j, b)⟩).run P w = .ok (.value v) w) (h : Hs P n ops w rest Z (upd f d v)) (hy : yl ops f j = some b := by rfl) (hn : Nat.blt d n = true := by rfl) : Hs P n ops w (⟨some d, op, ty, pos, af, some (j, b)⟩ :: rest) Z f := H_run (.yes j b rfl hy) rfl hn hr h
theorem L_ps (h : Wl P n ops rest N (upd f d undef) w) (hy : yl ops f j = some b' := by rfl) (hne : (b' == b) = false := by rfl) (hn : Nat.blt d n = true := by rfl) : Wl P n ops (⟨some d, op, ty, pos, af, some (j, b)⟩ :: rest) N f w := L_pass rfl hy hne rfl hn h
theorem L_pu (h : Wl P n ops rest N (upd f d undef) w) (hy : yl ops f j = none := by rfl) (hn : Nat.blt d n = true := by rfl) : Wl P n ops (⟨some d, op, ty, pos, af, some (j, b)⟩ :: rest) N f w := L_passu rfl hy rfl hn h
theorem H_ps (h : Hs P n ops w rest Z (upd f d undef)) (hy : yl ops f j = some b' := by rfl) (hne : (b' == b) = false := by rfl) (hn : Nat.blt d n = true := by rfl) : Hs P n ops w (⟨some d, op, ty, pos, af, some (j, b)⟩ :: rest) Z f := H_pass rfl hy hne rfl hn h
theorem H_pu (h : Hs P n ops w rest Z (upd f d undef)) (hy : yl ops f j = none := by rfl) (hn : Nat.blt d n = true := by rfl) : Hs P n ops w (⟨some d, op, ty, pos, af, some (j, b)⟩ :: rest) Z f := H_passu rfl hy rfl hn h
theorem D_t (i : Nat) (ho : ops[i]? = some ⟨some d, op, ty, pos, af, none⟩) (hrun : ∀ w, S w → (execOp (ev f) ⟨some d, op, ty, pos, af, none⟩).run P w = .ok (.value v) w) (h : D P n ops N X R S kk fuel (listed.setIfInBounds i true) (upd f d v) w)
    (hs : Region.noSelect ops = true := by kernel_rfl) (hf : Region.free .any ops listed i = true := by kernel_rfl) (hr : (Region.ready .any ops listed).contains i = true := by kernel_rfl) (hk : waits .any ops kk i = true := by kernel_rfl) (hn : Nat.blt d n = true := by rfl) (hS : S w := by assumption) : D P n ops N X R S kk (fuel + 1) listed f w := D_take i ho hs hf hr hk (.plain rfl) rfl hn hS hrun h
theorem D_g (i : Nat) (ho : ops[i]? = some ⟨some d, op, ty, pos, af, some (j, b)⟩) (hrun : ∀ w, S w → (execOp (ev f) ⟨some d, op, ty, pos, af, some (j, b)⟩).run P w = .ok (.value v) w) (h : D P n ops N X R S kk fuel (listed.setIfInBounds i true) (upd f d v) w)
    (hy : yl ops f j = some b := by rfl) (hs : Region.noSelect ops = true := by kernel_rfl) (hf : Region.free .any ops listed i = true := by kernel_rfl) (hr : (Region.ready .any ops listed).contains i = true := by kernel_rfl) (hk : waits .any ops kk i = true := by kernel_rfl) (hn : Nat.blt d n = true := by rfl) (hS : S w := by assumption) : D P n ops N X R S kk (fuel + 1) listed f w := D_take i ho hs hf hr hk (.yes j b rfl hy) rfl hn hS hrun h
theorem D_ps (i : Nat) (ho : ops[i]? = some ⟨some d, op, ty, pos, af, some (j, b)⟩) (h : D P n ops N X R S kk fuel (listed.setIfInBounds i true) (upd f d undef) w) (hy : yl ops f j = some b' := by rfl) (hne : (b' == b) = false := by rfl)
    (hs : Region.noSelect ops = true := by kernel_rfl) (hf : Region.free .any ops listed i = true := by kernel_rfl) (hr : (Region.ready .any ops listed).contains i = true := by kernel_rfl) (hk : waits .any ops kk i = true := by kernel_rfl) (hn : Nat.blt d n = true := by rfl) (hS : S w := by assumption) : D P n ops N X R S kk (fuel + 1) listed f w := D_pass i ho hs hf hr hk rfl hy hne rfl hn hS h
theorem D_pu (i : Nat) (ho : ops[i]? = some ⟨some d, op, ty, pos, af, some (j, b)⟩) (h : D P n ops N X R S kk fuel (listed.setIfInBounds i true) (upd f d undef) w) (hy : yl ops f j = none := by rfl)
    (hs : Region.noSelect ops = true := by kernel_rfl) (hf : Region.free .any ops listed i = true := by kernel_rfl) (hr : (Region.ready .any ops listed).contains i = true := by kernel_rfl) (hk : waits .any ops kk i = true := by kernel_rfl) (hn : Nat.blt d n = true := by rfl) (hS : S w := by assumption) : D P n ops N X R S kk (fuel + 1) listed f w := D_passu i ho hs hf hr hk rfl hy rfl hn hS h
theorem r_mi {x : Operand} {k : IntKind} {m : Int} (h : ev f x = .int k m) : (execOp (ev f) ⟨dst, .move x, ty, pos, af, g⟩).run P w = .ok (.value (.int k m)) w := r_move h
theorem r_mb {x : Operand} {m : Bool} (h : ev f x = .bool m) : (execOp (ev f) ⟨dst, .move x, ty, pos, af, g⟩).run P w = .ok (.value (.bool m)) w := r_move h
theorem r_ms {x : Operand} {m : ByteArray} (h : ev f x = .string m) : (execOp (ev f) ⟨dst, .move x, ty, pos, af, g⟩).run P w = .ok (.value (.string m)) w := r_move h
theorem r_mp {x : Operand} {m : Option Addr} (h : ev f x = .pointer m) : (execOp (ev f) ⟨dst, .move x, ty, pos, af, g⟩).run P w = .ok (.value (.pointer m)) w := r_move h
theorem r_mv {x : Operand} {v : Value} (h : ev f x = v := by conv => lhs; whnf) : (execOp (ev f) ⟨dst, .move x, ty, pos, af, g⟩).run P w = .ok (.value v) w := r_move h
theorem r_ai {x : Operand} {k : IntKind} {m : Int} (h : ev f x = .int k m) : (execOp (ev f) ⟨dst, .assign x, ty, pos, af, g⟩).run P w = .ok (.value (.int k m)) w := r_assign h
theorem r_ab {x : Operand} {m : Bool} (h : ev f x = .bool m) : (execOp (ev f) ⟨dst, .assign x, ty, pos, af, g⟩).run P w = .ok (.value (.bool m)) w := r_assign h
theorem r_as {x : Operand} {m : ByteArray} (h : ev f x = .string m) : (execOp (ev f) ⟨dst, .assign x, ty, pos, af, g⟩).run P w = .ok (.value (.string m)) w := r_assign h
theorem r_ap {x : Operand} {m : Option Addr} (h : ev f x = .pointer m) : (execOp (ev f) ⟨dst, .assign x, ty, pos, af, g⟩).run P w = .ok (.value (.pointer m)) w := r_assign h
theorem r_av {x : Operand} {v : Value} (h : ev f x = v := by conv => lhs; whnf) : (execOp (ev f) ⟨dst, .assign x, ty, pos, af, g⟩).run P w = .ok (.value v) w := r_assign h
theorem r_pt {c x y : Operand} {m : Bool} (hc : ev f c = .bool true) (h : ev f x = .bool m) : (execOp (ev f) ⟨dst, .pick c x y, ty, pos, af, g⟩).run P w = .ok (.value (.bool m)) w := r_pick_t hc h
theorem r_pf {c x y : Operand} {m : Bool} (hc : ev f c = .bool false) (h : ev f y = .bool m) : (execOp (ev f) ⟨dst, .pick c x y, ty, pos, af, g⟩).run P w = .ok (.value (.bool m)) w := r_pick_f hc h
theorem r_lb {x : Operand} {t : TypeId} {b i : Nat} {cs : Array Value} {e : TypeId} {v : Value} (ht : flat P t = true) (hx : ev f x = .pointer (some ⟨b, i, none⟩)) (hb : Bk w b cs e := by exact Bk.au) (hv : cs[i]? = some v := by first | assumption | (conv => lhs; simp only [List.getElem?_toArray, List.getElem?_cons_succ, List.getElem?_cons_zero])) : (execOp (ev f) ⟨dst, .load t x, ty, pos, af, g⟩).run P w = .ok (.value v) w := r_loadb ht hx hb hv
theorem r_ls {x : Operand} {t : TypeId} {i sz m : Nat} {xs : List Value} {u : Value} (ht : flat P t = true) (hx : ev f x = .pointer (some (at_ v i))) (h : Sl w v sz m xs := by exact Sl.au) (hv : xs[i]? = some u := by first | assumption | (conv => lhs; simp only [List.getElem?_toArray, List.getElem?_cons_succ, List.getElem?_cons_zero])) : (execOp (ev f) ⟨dst, .load t x, ty, pos, af, g⟩).run P w = .ok (.value u) w := r_loadSl ht hx h hv
theorem r_ix {x y : Operand} {t e : TypeId} {k : IntKind} {i : Int} {sz m : Nat} {xs : List Value} (hu : P.underlying t = some (.slice e)) (hz : (P.info? e).map (·.size) = some sz) (hx : ev f x = v) (hy : ev f y = .int k i) (h : Sl w v sz m xs) {j : Nat} (h0 : 0 ≤ i := by omega) (h1 : i < m := by omega) (hj : i.toNat * sz = j := by conv => lhs; (try simp only [Nat.mul_one, Nat.zero_add, Int.toNat_natCast, Int.toNat_zero, Int.reduceToNat, Nat.reduceMul, Nat.reduceAdd])) :
    (execOp (ev f) ⟨dst, .indexAddr t x y, ty, pos, af, g⟩).run P w = .ok (.value (.pointer (some (at_ v j)))) w := r_idxSl hu hz hx hy h h0 h1 hj
theorem fx2 {a b v : Value} (h1 : a = v := by conv => lhs; whnf) (h2 : b = v := by conv => lhs; whnf) : a = b := h1.trans h2.symm
theorem gw {p : Prop} (h : p := by first | exact hW | exact hW.1 | exact hW.2 | exact hW.2.1 | exact hW.2.2 | exact hW.2.2.1 | exact hW.2.2.2) : p := h
end
end Go.Proofs.YtioonbfinnigpaaGreatDoor
