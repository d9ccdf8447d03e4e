/- A text's bytes appended to a row of bytes; over any program. -/
import Derived.Test.YtioonbfinnigpaaGreatDoorSrow
import Derived.Lib.AppendStr
namespace Go.Proofs.YtioonbfinnigpaaGreatDoor
open Go Go.RowKit Go.Lib
set_option linter.unusedVariables false
set_option linter.unusedSimpArgs false
section
variable {P : Program} {w : World} {f : Fr} {ty : TypeId} {pos : String} {af : Array Edge} {g : Option (Nat × Bool)} {v : Value} {n : Nat} {xs : List Value}
theorem strCells_b8 (s : ByteArray) : strCells s = (bs s).map b8 := rfl
theorem ap_ows {t u e base : Nat} (ht : P.underlying t = some (.slice e)) (hu : P.underlying u = some .string) (hinfo : (P.info? e).map (fun i => (i.zero, i.size, i.bytes)) = some (some (.int .u8 0), 1, 1))
    (hown : Ow w base e 1 v n xs) (s : ByteArray) (h63 : n + s.size ≤ maxLen) (hby : n + s.size ≤ 140737488355328) (hb : base ≤ w.heap.size) :
    ∃ v' w', (Builtin.append_ #[t, u] ty #[v, .string s]).run P w = .ok v' w' ∧ Ow w' base e 1 v' (n + s.size) (xs ++ (bs s).map b8) ∧ Ch (fun j => v.ownBlock = some j) w w' ∧ (∀ j, v'.ownBlock = some j → v.ownBlock = some j ∨ w.heap.size ≤ j) := by
  obtain ⟨i, hi, hz0, hz1, hz2⟩ := info_parts hinfo
  obtain ⟨hx0, ⟨rfl, rfl⟩ | ⟨gb, cap, cur, rfl, k1, k2, k3, k4, k5, k6⟩⟩ := hown
  · have : xs = [] := List.eq_nil_of_length_eq_zero (by simpa using hx0)
    subst this
    obtain ⟨v', w', h1, h2, h3, _⟩ := run_append_own_string (P := P) w w.heap.size t u ty e i ht hu hi hz0 hz1 hz2 (.slice none 0 0) 0 [] (Own.nil w _ e 1) s h63 hby (Nat.le_refl _)
    exact ⟨v', w', h1, by have := (Ow.of h2).mono hb; rw [strCells_b8] at this; exact this, (Ch.of_grown h3).mono (fun i _ hi => by simp [Value.ownBlock] at hi), fun j hj => .inr (own_base h2 hj)⟩
  · have hsl : Sl w (.slice (some ⟨gb, 0, none⟩) n cap) 1 n xs := Ow.sl (base := gb) (e := e) ⟨hx0, .inr ⟨gb, cap, cur, rfl, Nat.le_refl _, k2, k3, k4, k5, k6⟩⟩
    have hlen : (xs ++ (bs s).map b8).length = (n + s.size) * 1 := by rw [List.length_append, hx0, List.length_map, bs_length]; omega
    by_cases hroom : n + s.size ≤ cap
    · have hr := run_append_room_string (P := P) w t u ty e i ht hu hi hz1 gb n cap cur k2 s hroom (by omega)
      refine ⟨_, _, hr, ⟨hlen, .inr ⟨gb, cap, _, rfl, k1, setRow_heap w gb cur _ e _ k2, hroom, k4, ?_, ?_⟩⟩, (Ch.setRow w gb _).mono fun j _ hj => by simp [Value.ownBlock, show j = gb from hj], fun j hj => .inl hj⟩
      · simp only [List.size_toArray, List.length_append, List.length_take, List.length_drop, Array.length_toList, strCells_length]
        omega
      · have ht' : cur.toList.take n = xs := by simpa using k6
        rw [ht', ← hlen]
        exact List.take_left
    · have hnm : cap < n + s.size := by omega
      have hfit := growslice_fits (bytes := 1) hnm (by omega)
      unfold maxLen at h63
      have hrun := run_append_grow_string (P := P) w t u ty e i (.int .u8 0) ht hu hi hz0 ⟨gb, 0, none⟩ n cap xs (by rw [hz1]; exact hx0) (fun j y hj => by
          have := hsl.cell hj
          rw [add_lit]
          simpa [at_] using this) s hnm (by omega) (by rw [hz2]; exact hfit)
      refine ⟨_, _, hrun, ?_, ((Ch.drew w).trans (Ch.alloc w.drew _)).nw, fun j hj => .inr ?_⟩
      · have hcap : n + s.size ≤ grownCap w (n + s.size) cap e := grownCap_ge w _ _ _
        have hcap2 : grownCap w (n + s.size) cap e ≤ maxLen := grownCap_le_maxLen w _ _ _ (by unfold maxLen; exact h63)
        refine ⟨hlen, .inr ⟨w.heap.size, _, _, rfl, hb, heap_alloc_new w.drew _, hcap, hcap2, ?_, ?_⟩⟩
        · have hzz : (Builtin.zeroCells (Value.int .u8 0).cells (grownCap w (n + s.size) cap e - (n + s.size))).size = (grownCap w (n + s.size) cap e - (n + s.size)) * 1 := by simp [Builtin.zeroCells, Value.cells]
          simp only [Array.size_append, List.size_toArray, hx0, hzz, strCells_length]
          omega
        · rw [← hlen]
          simp only [Array.toList_append, List.append_assoc]
          rw [← List.append_assoc, List.take_left']
          all_goals rfl
      · injection hj with hj
        exact Nat.le_of_eq hj
variable {d k : Nat} {ops : Array Oper} {rest : List Oper} {N : Cn}
theorem L_apows {s x : Operand} {t u e base : Nat} {str : ByteArray} (ht : P.underlying t = some (.slice e)) (hut : P.underlying u = some .string) (hinfo : (P.info? e).map (fun i => (i.zero, i.size, i.bytes)) = some (some (.int .u8 0), 1, 1))
    (hw : Wants ops f ⟨some d, .call { callee := .builtin .append, args := #[s, x], argTypes := #[t, u] }, ty, pos, af, g⟩) (hn : Nat.blt d k = true) (hs : ev f s = v) (hx : ev f x = .string str)
    (hown : Ow w base e 1 v n xs) (h63 : n + str.size ≤ maxLen) (hby : n + str.size ≤ 140737488355328) (hb : base ≤ w.heap.size)
    (h : ∀ v' w1, Ow w1 base e 1 v' (n + str.size) (xs ++ (bs str).map b8) → Ch (fun j => v.ownBlock = some j) w w1 → (∀ j, v'.ownBlock = some j → v.ownBlock = some j ∨ w.heap.size ≤ j) → Wl P k ops rest N (upd f d v') w1) :
    Wl P k ops (⟨some d, .call { callee := .builtin .append, args := #[s, x], argTypes := #[t, u] }, ty, pos, af, g⟩ :: rest) N f w := by
  obtain ⟨v', w', h2, h3, h4, h5⟩ := ap_ows (ty := ty) ht hut hinfo hown str h63 hby hb
  exact L_run hw rfl hn (r_append hs hx h2) (h v' w' h3 h4 h5)
end
theorem r_ret_ctt {P : Program} {w : World} {f : Fr} {fn : Func} {T : Value → World → Prop} {p0 : Nat} {t0 e0' : TypeId} {b0 : Nat} {cs0 : Array Value} {dd0 : TypeDesc} {i1 i2 : Nat} {v1 v2 : Value} (hr : fn.results = #[.cell p0 t0, .tmp i1, .tmp i2]) (hp0 : f p0 = .pointer (some ⟨b0, 0, none⟩)) (hu0 : P.underlying t0 = some dd0) (hd0 : (match dd0 with | .struct _ | .array _ _ => true | _ => false) = true) (hb0 : Bk w b0 cs0 e0') (hi0 : (P.info? t0).map (·.size) = some cs0.size) (h1 : f i1 = v1) (h2 : f i2 = v2) (h : T (.tuple #[.agg cs0, v1, v2]) w) : Rt P fn T f w := fun tm ht => by
  obtain ⟨fr0, hb0, _⟩ := hb0
  have e0 : tm[p0]?.getD undef = .pointer (some ⟨b0, 0, none⟩) := by have := ht p0; rw [hp0] at this; simpa using this
  have e1 : tm[i1]?.getD undef = v1 := by have := ht i1; rw [h1] at this; simpa using this
  have e2 : tm[i2]?.getD undef = v2 := by have := ht i2; rw [h2] at this; simpa using this
  refine ⟨.tuple #[.agg cs0, v1, v2], ?_, h⟩
  simp [results, hr, asAddr, e0, run_loadVar_row w b0 e0' t0 cs0 fr0 dd0 hb0 hu0 hd0 hi0, e1, e2]
theorem r_min {P : Program} {w : World} {f : Fr} {dst : Option Tmp} {ty : TypeId} {pos : String} {af : Array Edge} {g : Option (Nat × Bool)} {ats : Array TypeId} {x y : Operand} {k k' : IntKind} {a b : Int} (hx : ev f x = .int k a) (hy : ev f y = .int k' b) :
    (execOp (ev f) ⟨dst, .call { callee := .builtin .min, args := #[x, y], argTypes := ats }, ty, pos, af, g⟩).run P w = .ok (.value (.int k (if b < a then b else a))) w := by
  simp [execOp, resolve, invoke, builtin, hx, hy, run_min_int2]
/-- Parts of any size laid at their places. -/
def putN (pl : List (Nat × Nat)) : List (Nat × Value) → List Value → Option (List Value)
  | [], cs => some cs
  | (i, v) :: r, cs => match pl[i]? with
    | some (o, m) => if v.cells.size = m then (if o + m ≤ cs.length then putN pl r (cs.take o ++ v.cells.toList ++ cs.drop (o + m)) else none) else none
    | none => none
theorem fill_putN (pl : List (Nat × Nat)) : ∀ (vs : List (Nat × Value)) (cs : Array Value) (out : List Value), putN pl vs cs.toList = some out →
    Instr.fill (pl.toArray[·]?) cs vs = some out.toArray
  | [], cs, out, h => by simp only [putN] at h; injection h with h; subst h; simp [Instr.fill]
  | (i, v) :: r, cs, out, h => by
    simp only [putN] at h
    split at h
    · rename_i o m hpl
      split at h
      · rename_i hm
        split at h
        · rename_i ho
          have hi : pl.toArray[i]? = some (o, m) := by simpa using hpl
          have h3 : (decide (v.cells.size ≠ m) || decide (o + v.cells.size > cs.size)) = false := by
            simp only [Array.length_toList] at ho
            simp; omega
          have h4 : v.cells.zipIdx.foldl (fun cs (x : Value × Nat) => cs.setIfInBounds (o + x.2) x.1) cs = (cs.toList.take o ++ v.cells.toList ++ cs.toList.drop (o + m)).toArray := by
            have := foldSet v.cells.toList 0 o cs.toList (by simp only [Array.length_toList] at ho ⊢; omega)
            rw [Nat.add_zero, Array.length_toList, hm] at this
            rw [← this, ← Array.foldl_toList, Array.toList_zipIdx]
          have ih := fill_putN pl r (cs.toList.take o ++ v.cells.toList ++ cs.toList.drop (o + m)).toArray out (by simpa using h)
          simp only [Instr.fill, hi, h3, Bool.false_eq_true, if_false]
          rw [← ih, ← h4]
        · cases h
      · cases h
    · cases h
theorem r_buildN {P : Program} {w : World} {f : Fr} {dst : Option Tmp} {ty : TypeId} {pos : String} {af : Array Edge} {g : Option (Nat × Bool)} {t : TypeId} {fs : Array Field} {parts : Array (Nat × Operand)} {z : Array Value} {pl : List (Nat × Nat)} {vs : List (Nat × Value)} {cells : List Value} (hu : P.underlying t = some (.struct fs)) (hz : (P.info? t).bind (·.zero) = some (.agg z))
    (hp : fs.toList.mapM (fun f => (P.info? f.type).map fun i => (f.offset, i.size)) = some pl) (hv : (parts.toList.map fun p => (p.1, ev f p.2)) = vs) (hc : putN pl vs z.toList = some cells) :
    (execOp (ev f) ⟨dst, .build t parts, ty, pos, af, g⟩).run P w = .ok (.value (.agg cells.toArray)) w := by
  refine r_build ?_
  rw [hv]
  unfold Program.built
  cases hi : P.info? t with
  | none => rw [hi] at hz; cases hz
  | some it =>
    rw [hi] at hz
    simp only [Option.bind_some] at hz
    simp only [hu, hz, hp]
    exact fill_putN pl vs z cells hc
end Go.Proofs.YtioonbfinnigpaaGreatDoor
