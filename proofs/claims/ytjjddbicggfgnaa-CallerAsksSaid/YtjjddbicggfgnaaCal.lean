/- A caller, plainly: what it keeps, and what it does. -/
import Derived.Test.YtjjddbicggfgnaaMsgEq
import Derived.Test.YtjjddbicggfgnaaApps
import Derived.Test.YtjjddbicggfgnaaArgs
namespace Go.Proofs.Ytjjddbicggfgnaa
open Go Go.RowKit
set_option linter.unusedVariables false
set_option linter.unusedSimpArgs false
set_option maxRecDepth 100000
structure Opn where
  m : Msg
  waited : Int
  asks : Int
structure Rst where
  seq : Int
  way : Int
  body : ByteArray
structure Cal where
  life : Int
  wait : Int
  most : Int
  last : Int
  op : List (Int × Opn)
  out : List Msg
  res : List Rst
abbrev mcl (m : Msg) : List Value := [.int .i64 m.kind, .int .u64 m.life, .int .u64 m.seq, .int .u64 m.below, .int .u64 m.object, .string m.method, .int .i64 m.way, .string m.body]
abbrev rsl (r : Rst) : List Value := [.int .u64 r.seq, .int .i64 r.way, .string r.body]
def cellsM (L : List Msg) : List Value := L.flatMap mcl
def cellsT (L : List Rst) : List Value := L.flatMap rsl
theorem cellsM_append (M K : List Msg) : cellsM (M ++ K) = cellsM M ++ cellsM K := by simp [cellsM]
theorem cellsT_append (M K : List Rst) : cellsT (M ++ K) = cellsT M ++ cellsT K := by simp [cellsT]
theorem cellsM_length (M : List Msg) : (cellsM M).length = M.length * 8 := flat_length _ 8 (fun _ => rfl) M
theorem cellsT_length (M : List Rst) : (cellsT M).length = M.length * 3 := flat_length _ 3 (fun _ => rfl) M
theorem flat_row {X : Type} (f : X → List Value) (sz : Nat) (hf : ∀ x, (f x).length = sz) : ∀ (z : List X) (i : Nat) (h : i < z.length) (j : Nat) (u : Value), (f z[i])[j]? = some u → (z.flatMap f)[i * sz + j]? = some u
  | x :: z, 0, _, j, u, hj => by
    have hj9 : j < sz := by have := (List.getElem?_eq_some_iff.1 hj).1; simpa [hf] using this
    simp only [List.flatMap_cons, Nat.zero_mul, Nat.zero_add]
    rw [List.getElem?_append_left (by rw [hf]; exact hj9)]
    exact hj
  | x :: z, i + 1, h, j, u, hj => by
    have := flat_row f sz hf z i (by simpa using h) j u hj
    simp only [List.flatMap_cons]
    rw [List.getElem?_append_right (by rw [hf, Nat.succ_mul]; omega)]
    rw [show (i + 1) * sz + j - (f x).length = i * sz + j by rw [hf, Nat.succ_mul]; omega]
    exact this
theorem cellsM_row (z : List Msg) (i : Nat) (h : i < z.length) (j : Nat) (u : Value) : (mcl z[i])[j]? = some u → (cellsM z)[i * 8 + j]? = some u := flat_row mcl 8 (fun _ => rfl) z i h j u
theorem cellsT_row (z : List Rst) (i : Nat) (h : i < z.length) (j : Nat) (u : Value) : (rsl z[i])[j]? = some u → (cellsT z)[i * 3 + j]? = some u := flat_row rsl 3 (fun _ => rfl) z i h j u
theorem cellsM_one (M : List Msg) : ∀ y ∈ cellsM M, y.oneCell' = true := by
  intro y hy
  simp only [cellsM, List.mem_flatMap] at hy
  obtain ⟨m, _, hy⟩ := hy
  simp only [mcl, List.mem_cons, List.not_mem_nil, or_false] at hy
  rcases hy with rfl | rfl | rfl | rfl | rfl | rfl | rfl | rfl <;> rfl
theorem cellsT_one (M : List Rst) : ∀ y ∈ cellsT M, y.oneCell' = true := by
  intro y hy
  simp only [cellsT, List.mem_flatMap] at hy
  obtain ⟨m, _, hy⟩ := hy
  simp only [rsl, List.mem_cons, List.not_mem_nil, or_false] at hy
  rcases hy with rfl | rfl | rfl <;> rfl
theorem msg_info : (Try.prog.info? 33).map (fun i => (i.zero, i.size, i.bytes)) = some (some (.agg #[.int .i64 0, .int .u64 0, .int .u64 0, .int .u64 0, .int .u64 0, .string ByteArray.empty, .int .i64 0, .string ByteArray.empty]), 8, 80) := rfl
theorem rst_info : (Try.prog.info? 58).map (fun i => (i.zero, i.size, i.bytes)) = some (some (.agg #[.int .u64 0, .int .i64 0, .string ByteArray.empty]), 3, 32) := rfl
theorem u64_info : (Try.prog.info? 26).map (fun i => (i.zero, i.size, i.bytes)) = some (some (.int .u64 0), 1, 8) := rfl
abbrev pt (b : Nat) : Value := .pointer (some ⟨b, 0, none⟩)
abbrev Opn.row (o : Opn) : Array Value := #[.int .i64 o.m.kind, .int .u64 o.m.life, .int .u64 o.m.seq, .int .u64 o.m.below, .int .u64 o.m.object, .string o.m.method, .int .i64 o.m.way, .string o.m.body, .int .i64 o.waited, .int .i64 o.asks]
abbrev Cal.row (C : Cal) (bm : Nat) (vo vr : Value) : Array Value := #[.int .u64 C.life, .int .i64 C.wait, .int .i64 C.most, .int .u64 C.last, .map (some bm), vo, vr]
/-- The map, as it lies there. -/
def pm (g : Int → Nat) (L : List (Int × Opn)) : List (Int × Value) := L.map fun p => (p.1, pt (g p.1))
theorem pm_keys (g : Int → Nat) (L : List (Int × Opn)) : (pm g L).map (·.1) = L.map (·.1) := by simp [pm]
theorem pm_len (g : Int → Nat) (L : List (Int × Opn)) : (pm g L).length = L.length := by simp [pm]
theorem mget_pm (g : Int → Nat) (L : List (Int × Opn)) (k : Int) : mget (pm g L) k = (mget L k).map fun _ => pt (g k) := by
  induction L with
  | nil => rfl
  | cons p L ih =>
    unfold mget pm at *
    rw [List.map_cons]
    by_cases e : p.1 = k
    · rw [List.find?_cons_of_pos (by simpa using e), List.find?_cons_of_pos (by simpa using e)]
      simp [e]
    · rw [List.find?_cons_of_neg (by simpa using e), List.find?_cons_of_neg (by simpa using e)]
      exact ih
theorem mdel_pm (g : Int → Nat) (L : List (Int × Opn)) (k : Int) : mdel (pm g L) k = pm g (mdel L k) := by
  unfold mdel pm
  rw [List.filter_map]
  rfl
def gset (g : Int → Nat) (k : Int) (b : Nat) : Int → Nat := fun s => if s = k then b else g s
theorem mset_pm {g : Int → Nat} {L : List (Int × Opn)} {k : Int} {b : Nat} {o : Opn} (h : mget L k = none) : mset (pm g L) k (pt b) = pm (gset g k b) (L ++ [(k, o)]) := by
  unfold mset
  rw [mget_pm, h, if_neg (by simp)]
  unfold pm
  rw [List.map_append]
  congr 1
  · apply List.map_congr_left
    intro p hp
    have := mget_no h p hp
    unfold gset; rw [if_neg this]
  · simp [gset]
/-- One call, changed. -/
def mupd (L : List (Int × Opn)) (k : Int) (o : Opn) : List (Int × Opn) := L.map fun p => if p.1 = k then (k, o) else p
theorem mupd_keys (L : List (Int × Opn)) (k : Int) (o : Opn) : (mupd L k o).map (·.1) = L.map (·.1) := by
  unfold mupd
  rw [List.map_map]
  apply List.map_congr_left
  intro p _
  simp only [Function.comp]
  split
  · rename_i e; exact e.symm
  · rfl
theorem mupd_len (L : List (Int × Opn)) (k : Int) (o : Opn) : (mupd L k o).length = L.length := by simp [mupd]
theorem mupd_pm (g : Int → Nat) (L : List (Int × Opn)) (k : Int) (o : Opn) : pm g (mupd L k o) = pm g L := by
  unfold pm mupd
  rw [List.map_map]
  apply List.map_congr_left
  intro p _
  simp only [Function.comp]
  split
  · rename_i e; rw [e]
  · rfl
theorem mupd_mem {L : List (Int × Opn)} {k : Int} {o : Opn} {p : Int × Opn} (h : p ∈ mupd L k o) : p = (k, o) ∨ (p ∈ L ∧ p.1 ≠ k) := by
  obtain ⟨q, hq, e⟩ := List.mem_map.1 h
  split at e
  · exact .inl e.symm
  · rename_i hne; subst e; exact .inr ⟨hq, hne⟩
theorem mget_mupd (L : List (Int × Opn)) (k k' : Int) (o : Opn) : mget (mupd L k o) k' = if k' = k then (mget L k).map (fun _ => o) else mget L k' := by
  induction L with
  | nil => by_cases h : k' = k <;> simp [mupd, mget, h]
  | cons p L ih =>
    have hc : mupd (p :: L) k o = (if p.1 = k then (k, o) else p) :: mupd L k o := rfl
    rw [hc]
    unfold mget at *
    by_cases e : p.1 = k
    · rw [if_pos e]
      by_cases e2 : k' = k
      · subst e2
        rw [List.find?_cons_of_pos (by simp), if_pos rfl, List.find?_cons_of_pos (by simpa using e)]; rfl
      · rw [List.find?_cons_of_neg (by simpa using fun h => e2 h.symm), ih, if_neg e2, if_neg e2, List.find?_cons_of_neg (by simpa using fun h => e2 (h.symm.trans e))]
    · rw [if_neg e]
      by_cases e3 : p.1 = k'
      · rw [List.find?_cons_of_pos (by simpa using e3), if_neg (fun h => e (e3.trans h)), List.find?_cons_of_pos (by simpa using e3)]
      · have e4 : ¬ (decide (p.1 = k') = true) := by simpa using e3
        have e5 : ¬ (decide (p.1 = k) = true) := by simpa using e
        simp only [List.find?_cons, decide_eq_false e3, decide_eq_false e]
        exact ih
theorem mdel_mem {L : List (Int × Opn)} {k : Int} {p : Int × Opn} : p ∈ mdel L k ↔ p ∈ L ∧ p.1 ≠ k := by simp [mdel]
theorem mget_mdel (L : List (Int × Opn)) (k k' : Int) : mget (mdel L k) k' = if k' = k then none else mget L k' := by
  induction L with
  | nil => by_cases h : k' = k <;> simp [mdel, mget, h]
  | cons p L ih =>
    unfold mget mdel at *
    by_cases e : p.1 = k
    · rw [List.filter_cons_of_neg (by simpa using e), ih]
      by_cases e2 : k' = k
      · rw [if_pos e2, if_pos e2]
      · rw [if_neg e2, if_neg e2, List.find?_cons_of_neg (by simpa using fun h => e2 (h.symm.trans e))]
    · rw [List.filter_cons_of_pos (by simpa using e)]
      by_cases e3 : p.1 = k'
      · rw [List.find?_cons_of_pos (by simpa using e3), if_neg (fun h => e (e3.trans h)), List.find?_cons_of_pos (by simpa using e3)]
      · rw [List.find?_cons_of_neg (by simpa using e3), ih]
        simp only [List.find?_cons, decide_eq_false e3]
/-! ### what it does -/
def belowC (C : Cal) : Int := match C.op with
  | [] => C.last + 1
  | p :: _ => p.1
def askO (n : Int) (o : Opn) : Opn := { m := { o.m with below := n }, waited := 0, asks := o.asks + 1 }
def ask1 (C : Cal) (k : Int) (o : Opn) : Cal := { C with op := mupd C.op k (askO (belowC C) o), out := C.out ++ [(askO (belowC C) o).m] }
def endC (C : Cal) (k way : Int) (body : ByteArray) : Cal := { C with op := mdel C.op k, res := C.res ++ [⟨k, way, body⟩] }
def waitO (o : Opn) : Opn := { o with waited := o.waited + 1 }
def tick1 (C : Cal) (k : Int) : Cal := match mget C.op k with
  | none => C
  | some o =>
    if o.waited + 1 < C.wait then { C with op := mupd C.op k (waitO o) }
    else if C.most ≤ o.asks then endC C k 3 { data := #[] }
    else ask1 C k o
def tick (C : Cal) : Cal := (C.op.map (·.1)).foldl tick1 C
def newM (C : Cal) (object : Int) (method body : ByteArray) : Msg := ⟨0, C.life, C.last + 1, 1, object, method, 0, body⟩
def callC (C : Cal) (object : Int) (method body : ByteArray) : Cal × Int × Int :=
  if 1024 ≤ C.op.length then (C, 0, 150)
  else if checkC (newM C object method body) ≠ 0 then (C, 0, checkC (newM C object method body))
  else (ask1 { C with last := C.last + 1, op := C.op ++ [(C.last + 1, ⟨newM C object method body, 0, 0⟩)] } (C.last + 1) ⟨newM C object method body, 0, 0⟩, C.last + 1, 0)
def recvC (C : Cal) (m : Msg) : Cal × Bool := if mget C.op m.seq = none ∨ m.kind ≠ 1 ∨ m.life ≠ C.life ∨ checkC m ≠ 0 then (C, false) else (endC C m.seq m.way m.body, true)
theorem mdel_mupd (L : List (Int × Opn)) (k : Int) (o : Opn) : mdel (mupd L k o) k = mdel L k := by
  unfold mdel mupd
  induction L with
  | nil => rfl
  | cons p L ih =>
    rw [List.map_cons]
    by_cases e : p.1 = k
    · rw [if_pos e, List.filter_cons_of_neg (by simp), List.filter_cons_of_neg (by simpa using e), ih]
    · rw [if_neg e, List.filter_cons_of_pos (by simpa using e), List.filter_cons_of_pos (by simpa using e), ih]
theorem mupd_mupd (L : List (Int × Opn)) (k : Int) (o o' : Opn) : mupd (mupd L k o) k o' = mupd L k o' := by
  unfold mupd
  rw [List.map_map]
  apply List.map_congr_left
  intro p _
  simp only [Function.comp]
  by_cases e : p.1 = k
  · rw [if_pos e, if_pos e, if_pos rfl]
  · rw [if_neg e, if_neg e]
theorem belowC_mupd (C : Cal) (k : Int) (o : Opn) : belowC { C with op := mupd C.op k o } = belowC C := by
  unfold belowC mupd
  cases hop : C.op with
  | nil => rfl
  | cons p L =>
    show (if p.1 = k then (k, o) else p).1 = p.1
    split
    · rename_i e; exact e.symm
    · rfl
theorem end_wait (C : Cal) (k way : Int) (body : ByteArray) (o : Opn) : endC { C with op := mupd C.op k o } k way body = endC C k way body := by
  unfold endC
  rw [mdel_mupd]
theorem ask_wait (C : Cal) (k : Int) (o : Opn) : ask1 { C with op := mupd C.op k (waitO o) } k (waitO o) = ask1 C k o := by
  unfold ask1
  rw [belowC_mupd]
  show ({ C with op := mupd (mupd C.op k (waitO o)) k (askO (belowC C) o), out := _ } : Cal) = _
  rw [mupd_mupd]; rfl
/-- The numbers are in order. -/
structure Cal.Asc (C : Cal) : Prop where
  asc : (C.op.map (·.1)).Pairwise (· < ·)
  rng : ∀ p ∈ C.op, 1 ≤ p.1 ∧ p.1 ≤ C.last
  lst : 0 ≤ C.last ∧ C.last ≤ 1000000
/-- As it always is. -/
structure Cal.Good (C : Cal) : Prop extends Cal.Asc C where
  seq : ∀ p ∈ C.op, p.2.m.seq = p.1
  cnt : ∀ p ∈ C.op, 0 ≤ p.2.waited ∧ p.2.waited < C.wait ∧ 0 ≤ p.2.asks ∧ p.2.asks ≤ C.most
  wt : 1 ≤ C.wait ∧ C.wait ≤ 1000 ∧ 1 ≤ C.most ∧ C.most ≤ 1000
theorem pair_nodup {l : List Int} (h : l.Pairwise (· < ·)) : l.Nodup := h.imp fun h e => by omega
theorem Cal.Asc.nd {C : Cal} (h : C.Asc) : (C.op.map (·.1)).Nodup := pair_nodup h.asc
theorem Cal.Asc.get {C : Cal} (h : C.Asc) {p : Int × Opn} (hp : p ∈ C.op) : mget C.op p.1 = some p.2 := mget_mem h.nd (by obtain ⟨a, b⟩ := p; exact hp)
theorem Cal.Asc.bel {C : Cal} (h : C.Asc) : (∀ p ∈ C.op, belowC C ≤ p.1) ∧ belowC C ≤ C.last + 1 ∧ 1 ≤ belowC C ∧ (belowC C = C.last + 1 ∨ ∃ p ∈ C.op, belowC C = p.1) := by
  unfold belowC
  have ha := h.asc
  have hr := h.rng
  have hl := h.lst
  cases hop : C.op with
  | nil => exact ⟨fun p hp => by simp at hp, Int.le_refl _, by show (1 : Int) ≤ C.last + 1; omega, .inl rfl⟩
  | cons q L =>
    rw [hop] at ha hr
    rw [List.map_cons, List.pairwise_cons] at ha
    have hq := hr q List.mem_cons_self
    refine ⟨fun p hp => ?_, by show q.1 ≤ _; omega, by show (1 : Int) ≤ q.1; omega, .inr ⟨q, List.mem_cons_self, rfl⟩⟩
    rcases List.mem_cons.1 hp with rfl | hp
    · exact Int.le_refl _
    · exact Int.le_of_lt (ha.1 p.1 (List.mem_map.2 ⟨p, hp, rfl⟩))
theorem Cal.Asc.upd {C : Cal} (h : C.Asc) {k : Int} {o o' : Opn} (ho : mget C.op k = some o) : ({ C with op := mupd C.op k o' } : Cal).Asc := by
  have hk := mget_some ho
  refine ⟨by show ((mupd C.op k o').map _).Pairwise _; rw [mupd_keys]; exact h.asc, fun p hp => ?_, h.lst⟩
  rcases mupd_mem hp with rfl | ⟨hp, _⟩
  · exact h.rng (k, o) hk
  · exact h.rng _ hp
theorem Cal.Good.upd {C : Cal} (h : C.Good) {k : Int} {o o' : Opn} (ho : mget C.op k = some o) (h1 : o'.m.seq = k) (h2 : 0 ≤ o'.waited ∧ o'.waited < C.wait ∧ 0 ≤ o'.asks ∧ o'.asks ≤ C.most) : ({ C with op := mupd C.op k o' } : Cal).Good := by
  refine ⟨h.toAsc.upd ho, fun p hp => ?_, fun p hp => ?_, h.wt⟩
  · rcases mupd_mem hp with rfl | ⟨hp, _⟩
    · exact h1
    · exact h.seq _ hp
  · rcases mupd_mem hp with rfl | ⟨hp, _⟩
    · exact h2
    · exact h.cnt _ hp
theorem Cal.Good.of {C D : Cal} (h : C.Good) (h1 : D.op = C.op) (h2 : D.last = C.last) (h3 : D.wait = C.wait) (h4 : D.most = C.most) : D.Good :=
  ⟨⟨by rw [h1]; exact h.asc, by rw [h1, h2]; exact h.rng, by rw [h2]; exact h.lst⟩, by rw [h1]; exact h.seq, by rw [h1, h3, h4]; exact h.cnt, by rw [h3, h4]; exact h.wt⟩
theorem Cal.Good.end_ {C : Cal} (h : C.Good) (k way : Int) (body : ByteArray) : (endC C k way body).Good :=
  ⟨⟨List.Pairwise.sublist (List.Sublist.map (fun p : Int × Opn => p.1) (List.filter_sublist (l := C.op))) h.asc, fun (p : Int × Opn) hp => h.rng p (mdel_mem.1 hp).1, h.lst⟩, fun (p : Int × Opn) hp => h.seq p (mdel_mem.1 hp).1, fun (p : Int × Opn) hp => h.cnt p (mdel_mem.1 hp).1, h.wt⟩
theorem Cal.Good.ask_ {C : Cal} (h : C.Good) {k : Int} {o : Opn} (ho : mget C.op k = some o) (ha : o.asks + 1 ≤ C.most) : (ask1 C k o).Good := by
  have hk := mget_some ho
  have hc : 0 ≤ o.waited ∧ o.waited < C.wait ∧ 0 ≤ o.asks ∧ o.asks ≤ C.most := h.cnt _ hk
  have hw := h.wt
  exact (h.upd (o' := askO (belowC C) o) ho (h.seq _ hk) ⟨Int.le_refl _, by show (0 : Int) < C.wait; omega, by show 0 ≤ o.asks + 1; omega, ha⟩).of rfl rfl rfl rfl
theorem Cal.Good.tick1_ {C : Cal} (h : C.Good) (k : Int) : (tick1 C k).Good := by
  unfold tick1
  cases ho : mget C.op k with
  | none => exact h
  | some o =>
    have hk := mget_some ho
    have hc : 0 ≤ o.waited ∧ o.waited < C.wait ∧ 0 ≤ o.asks ∧ o.asks ≤ C.most := h.cnt _ hk
    simp only
    by_cases hl : o.waited + 1 < C.wait
    · rw [if_pos hl]
      exact h.upd ho (h.seq _ hk) ⟨by show 0 ≤ o.waited + 1; omega, hl, hc.2.2.1, hc.2.2.2⟩
    · rw [if_neg hl]
      by_cases hm : C.most ≤ o.asks
      · rw [if_pos hm]; exact h.end_ _ _ _
      · rw [if_neg hm]; exact h.ask_ ho (by omega)
theorem tick1_other {C : Cal} {k k' : Int} (h : k' ≠ k) : mget (tick1 C k).op k' = mget C.op k' := by
  unfold tick1
  cases ho : mget C.op k with
  | none => rfl
  | some o =>
    simp only
    split
    · show mget (mupd C.op k (waitO o)) k' = _
      rw [mget_mupd, if_neg h]
    · split
      · show mget (mdel C.op k) k' = _
        rw [mget_mdel, if_neg h]
      · show mget (mupd C.op k _) k' = _
        rw [mget_mupd, if_neg h]
theorem Cal.Good.ticks {C : Cal} (h : C.Good) (l : List Int) : (l.foldl tick1 C).Good := by
  induction l generalizing C with
  | nil => exact h
  | cons k l ih => exact ih (h.tick1_ k)
theorem Cal.Good.tick_ {C : Cal} (h : C.Good) : (tick C).Good := h.ticks _
theorem ticks_other (C : Cal) (l : List Int) (k : Int) (h : k ∉ l) : mget (l.foldl tick1 C).op k = mget C.op k := by
  induction l generalizing C with
  | nil => rfl
  | cons x l ih =>
    rw [List.mem_cons, not_or] at h
    rw [List.foldl_cons, ih _ h.2, tick1_other h.1]
theorem Cal.Good.new_ {C : Cal} (h : C.Good) (hl : C.last + 1 ≤ 1000000) (object : Int) (method body : ByteArray) : ({ C with last := C.last + 1, op := C.op ++ [(C.last + 1, ⟨newM C object method body, 0, 0⟩)] } : Cal).Good := by
  have hw := h.wt
  have hls := h.lst
  refine ⟨⟨?_, ?_, ?_⟩, ?_, ?_, h.wt⟩
  · show List.Pairwise _ ((C.op ++ [(C.last + 1, _)]).map fun (p : Int × Opn) => p.1)
    rw [List.map_append, List.pairwise_append]
    refine ⟨h.asc, by simp, fun a ha b hb => ?_⟩
    obtain ⟨p, hp, rfl⟩ := List.mem_map.1 ha
    have := (h.rng p hp).2
    simp at hb; subst hb
    omega
  · intro p hp
    rcases List.mem_append.1 hp with hp | hp
    · have := h.rng p hp; exact ⟨this.1, by show p.1 ≤ C.last + 1; omega⟩
    · rw [List.mem_singleton] at hp; subst hp
      exact ⟨by show 1 ≤ C.last + 1; omega, Int.le_refl _⟩
  · exact ⟨by show 0 ≤ C.last + 1; omega, hl⟩
  · intro p hp
    rcases List.mem_append.1 hp with hp | hp
    · exact h.seq p hp
    · rw [List.mem_singleton] at hp; subst hp; rfl
  · intro p hp
    rcases List.mem_append.1 hp with hp | hp
    · exact h.cnt p hp
    · rw [List.mem_singleton] at hp; subst hp
      exact ⟨Int.le_refl _, by show (0 : Int) < C.wait; omega, Int.le_refl _, by show (0 : Int) ≤ C.most; omega⟩
theorem Cal.Asc.no {C : Cal} (h : C.Asc) : mget C.op (C.last + 1) = none := mget_none fun p hp e => by have := (h.rng p hp).2; omega
theorem new_get {C : Cal} (h : C.Asc) (o : Opn) : mget (C.op ++ [(C.last + 1, o)]) (C.last + 1) = some o := by
  have hn := h.no
  unfold mget at *
  rw [Option.map_eq_none_iff] at hn
  rw [List.find?_append, hn]
  simp
theorem Cal.Good.call_ {C : Cal} (h : C.Good) (hl : C.last + 1 ≤ 1000000) (object : Int) (method body : ByteArray) : (callC C object method body).1.Good := by
  unfold callC
  split
  · exact h
  · split
    · exact h
    · have hw := h.wt
      exact (h.new_ hl object method body).ask_ (new_get h.toAsc _) (by show (0 : Int) + 1 ≤ C.most; omega)
theorem Cal.Good.recv_ {C : Cal} (h : C.Good) (m : Msg) : (recvC C m).1.Good := by
  unfold recvC
  split
  · exact h
  · exact h.end_ _ _ _
end Go.Proofs.Ytjjddbicggfgnaa

