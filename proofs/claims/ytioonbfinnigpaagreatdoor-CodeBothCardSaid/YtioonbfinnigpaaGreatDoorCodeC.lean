/- What the rows' laid variables give the walks; a world for the witness. -/
import Derived.Test.YtioonbfinnigpaaGreatDoorCode10
import Derived.Test.YtioonbfinnigpaaGreatDoorCards
import Derived.Lib.LaidIn
import Derived.Lib.LaidU8T
import Derived.Lib.ValidU
import Derived.ProofKit
import Derived.LaidMore
import Derived.Lay
import Derived.HandedShaped
import Derived.Stop.LaidErr
namespace Go.Proofs.YtioonbfinnigpaaGreatDoor
open Go Go.RowKit Go.Lib
set_option linter.unusedVariables false
set_option maxRecDepth 100000
/-- The wrap: with a condition beside, and the world's shape kept. -/
theorem handed_and_shaped {H : Type} {enc : TypeId × Value → H} {a : Assume} {C : Checked} {os : Os} {f : FuncId} {fn : Func} {s : ChangeSpec} {conds : List PathCond} {apart fresh handsOn again : Bool} {X : World → Array Value → Prop}
    (hX : ∀ (w w' : World) (args : Array Value), w.heap = w'.heap → X w args → X w' args)
    (own : ownKnob C.prog.godebug = none) (started : os.Started) (noInit : C.prog.inits.idxOf? f = none) (hfn : C.prog.funcs[f]? = some fn)
    (witness : ∃ (w : World) (tape : Tape) (i : Input), w.os = os ∧ (w.forCall tape i).Shaped C.prog ∧ i.vars = [] ∧ Input.okWide C.prog (w.forCall tape i) .any w.heap.size f i ∧
      ((s.pre enc C.prog fn conds apart (w.forCall tape i).memory i.args ∧ X (w.forCall tape i).memory i.args) ∧ sizedMet enc C.prog fn (OpenSpec.ofChange s) apart (w.forCall tape i).memory i.args) ∧ a.holds C.prog (lone (Frame.enter C.prog f i.args .normal) [] (w.forCall tape i)))
    (contract : ∀ (W : World) (base : Nat) (args : Array Value) (ds gs : List (DataW H)) (before : List MemPlace),
      (∀ (j : Nat) t v, fn.params[j]? = some t → args[j]? = some v → Value.okWide C.prog W .any base t v) →
      DataW.Whole enc C.prog fn.params.toList s.vars apart W args.toList ds gs before →
      conds.all (PathCond.test C.prog ⟨fn.params.toList, ds, s.plain.varTypes C.prog, gs⟩) = true →
      (DataW.weightsEach C.prog (fn.params.toList ++ s.plain.varTypes C.prog) (ds ++ gs)).all (· ≤ reachBytes) = true → X W args → W.ShapedOpen C.prog →
      a.holds C.prog (lone (Frame.enter C.prog f args .normal) [] W) →
      Calls C.prog f args W fun e W' => ∃ v, e = .returned v ∧ s.post enc C.prog fn apart fresh handsOn again W args v W') :
    ReturnsInHanded a C os f .any (fun w args => (s.pre enc C.prog fn conds apart w args ∧ X w args) ∧ sizedMet enc C.prog fn (OpenSpec.ofChange s) apart w args) (s.post enc C.prog fn apart fresh handsOn again) := by
  refine returnsInHanded_of_calls own started noInit witness ?_
  intro w tape i _ hsh _ hok hpre hholds
  obtain ⟨_, _, _, fn', hfn', _, _, _, _, hval⟩ := hok
  obtain rfl : fn' = fn := Option.some.inj (hfn'.symm.trans hfn)
  obtain ⟨⟨⟨ds, gs, before, hw, hc⟩, hx⟩, hz⟩ := hpre
  refine (contract (w.forCall tape i) w.heap.size i.args ds gs before hval (DataW.Whole.of_heap (w' := w.forCall tape i) (by rfl) hw) hc (hz.weights hw) (hX _ _ _ (by rfl) hx) hsh hholds).mono fun e W' hv => ?_
  obtain ⟨v, rfl, hp⟩ := hv
  exact ChangeSpec.post_blind hp
/-- What the rows list. -/
noncomputable def laidL : List (String × DataW Unit) := Rows.codeTakesRow.laid
theorem laid_plain (W : World) : laidMetH Tryz.prog laidL W = laidMet Tryz.prog laidL W := MakeChecks.laidMetH_plain _ _ _ (by kernel_rfl)
theorem accept_eq : (Rows.laid_unicode_utf8_acceptRanges : DataW Unit) = Lib.acceptData := by kernel_rfl
theorem first_eq : Rows.laid_unicode_utf8_first = Lib.firstData := by kernel_rfl
theorem pow_eq : (Rows.laid_internal_strconv_uint64pow10 : DataW Unit) = Lib.tabData .u64 Lib.pow10Tab := by kernel_rfl
def opD (o : ByteArray × Bool × Bool) : DataW Unit := .agg [.lit (.string (bs o.1)), .lit (.bool o.2.1), .lit (.bool o.2.2)]
theorem ops_eq : (Rows.laid_squinch_code_ops : DataW Unit) = .agg (opT.map opD) := by kernel_rfl
theorem lt_cell {W : World} {a : Addr} {v : Value} (hc : W.cell? a = some v) : a.block < W.heap.size := by
  rcases Nat.lt_or_ge a.block W.heap.size with h' | h'
  · exact h'
  · simp [World.cell?, Array.getElem?_eq_none h'] at hc
theorem lt_blk {W : World} {g : Nat} {o : Obj} (hc : W.heap[g]? = some o) : g < W.heap.size := (Array.getElem?_eq_some_iff.1 hc).1
/-- A row of an operator. -/
theorem op_cells {W : World} {fuel : Nat} {cs : List Value} {o : ByteArray × Bool × Bool} {p : List MemPlace} (h : DataW.trod (fun _ => ()) Tryz.prog W 0 (fun _ => true) false fuel 59 cs = some (opD o, p)) : cs = opr o := by
  obtain ⟨xs, m, _, hx, hl, hxl, hf⟩ := DataW.trod_struct Tryz.underlying59 h
  have h0 := congrArg Prod.fst hx
  have hl3 : cs.length = 3 := hl
  have hf2 : ∀ (i : Nat) (f : Field), _ = some f → DataW.trod (fun _ => ()) Tryz.prog W 0 (fun _ => true) false m f.type ((cs.drop f.offset).take (Tryz.prog.cellsOf f.type)) = xs[i]? := hf
  have hxl3 : xs.length = 3 := hxl
  match cs, hl3, xs, hxl3 with
  | [c0, c1, c2], _, [x0, x1, x2], _ =>
    have g0 := hf2 0 _ rfl
    have g1 := hf2 1 _ rfl
    have g2 := hf2 2 _ rfl
    obtain ⟨s0, e0, k0⟩ := DataW.trod_string Tryz.underlying9 g0
    obtain ⟨s1, e1, k1⟩ := DataW.trod_bool Tryz.underlying4 g1
    obtain ⟨s2, e2, k2⟩ := DataW.trod_bool Tryz.underlying4 g2
    obtain rfl : c0 = .string s0 := by injection e0
    obtain rfl : c1 = .bool s1 := by injection e1
    obtain rfl : c2 = .bool s2 := by injection e2
    subst k1 k2
    obtain rfl : x0 = _ := k0.1
    simp only [opD, List.map_cons, List.map_nil] at h0
    injection h0 with h0
    injection h0 with a0 h0
    injection h0 with a1 h0
    injection h0 with a2 h0
    injection a0 with a0
    injection a0 with a0
    injection a1 with a1
    injection a1 with a1
    injection a2 with a2
    injection a2 with a2
    have e : s0 = o.1 := bs_inj.1 a0.symm
    rw [e, ← a1, ← a2]
theorem ops_of {W : World} (h : VarReads Tryz.prog W "squinch/code.ops" (.agg (opT.map opD))) : (∀ (i : Nat) (u : Value), opL[i]? = some u → W.cell? ⟨0, i, none⟩ = some u) ∧ ∃ cs t fr, W.heap[0]? = some (.cells cs t fr) := by
  obtain ⟨g, t, cs, fuel, p, hg, hty, hvar, hd⟩ := h
  obtain rfl := Option.some.inj ((show Tryz.prog.globalNamed "squinch/code.ops" = some 0 by kernel_rfl).symm.trans hg)
  obtain rfl := Option.some.inj ((show (Tryz.prog.globals[0]?).map (·.type) = some 60 by kernel_rfl).symm.trans hty)
  constructor
  · intro k u hu
    have hk : k < 126 := by rw [← opL_len]; exact (List.getElem?_eq_some_iff.1 hu).1
    have hi : k / 3 < 42 := by omega
    obtain ⟨fuel', d, q, hd1, hd2⟩ := array_elem (n := 42) Tryz.underlying60 hd (k / 3) hi
    have hi' : k / 3 < opT.length := by rw [opT_len]; exact hi
    rw [List.getElem?_map, List.getElem?_eq_getElem hi', Option.map_some] at hd1
    injection hd1 with hd1
    subst hd1
    have hrow := op_cells hd2
    have h3 : Tryz.prog.cellsOf 59 = 3 := by kernel_rfl
    rw [h3] at hrow
    have hj : k % 3 < 3 := by omega
    have hjl : k % 3 < (opr opT[k / 3]).length := hj
    have h4 := opL_row (k / 3) hi' (k % 3) _ (List.getElem?_eq_getElem hjl)
    rw [show k / 3 * 3 + k % 3 = k by omega, hu] at h4
    injection h4 with h4
    rw [World.var?_cell hg hvar k, ← Array.getElem?_toList]
    have h5 : ((cs.toList.drop (k / 3 * 3)).take 3)[k % 3]? = some u := by rw [hrow, List.getElem?_eq_getElem hjl, h4]
    rw [List.getElem?_take_of_lt hj, List.getElem?_drop, show k / 3 * 3 + k % 3 = k by omega] at h5
    exact h5
  · unfold World.var? at hvar
    rw [hg, Option.bind_some] at hvar
    split at hvar
    · rename_i cs' t' fr' hh
      exact ⟨_, _, _, hh⟩
    · cases hvar
theorem pow_of {W : World} (h : VarReads Tryz.prog W "internal/strconv.uint64pow10" (Lib.tabData .u64 Lib.pow10Tab)) : ∃ t fr, W.heap[6]? = some (.cells (Lib.pow10Tab.map fun z => Value.int .u64 z).toArray t fr) := by
  obtain ⟨g, t, cs, fuel, p, hg, hty, hvar, hd⟩ := h
  obtain rfl := Option.some.inj (pow_name.symm.trans hg)
  obtain rfl := Option.some.inj ((show (Tryz.prog.globals[6]?).map (·.type) = some 131 by kernel_rfl).symm.trans hty)
  have hcs := cells_of_tab (n := 20) Tryz.underlying131 Tryz.underlying23 (by kernel_rfl) (by kernel_rfl) hd
  unfold World.var? at hvar
  rw [hg, Option.bind_some] at hvar
  split at hvar
  · rename_i cs' t' fr' hh
    injection hvar with hvar
    subst hvar
    refine ⟨t', fr', hh.trans ?_⟩
    rw [← hcs]
  · cases hvar
/-- What the walks ask of the first world. -/
structure Lv (W : World) : Prop where
  gv : Gv W.heap.size W
  fv : Fv W.heap.size W
theorem lv_of {W : World} {l : List (String × DataW Unit)} (h : laidMet Tryz.prog l W) (hsh : W.ShapedOpen Tryz.prog)
    (m1 : ("unicode/utf8.first", Lib.firstData) ∈ l) (m2 : ("unicode/utf8.acceptRanges", Lib.acceptData) ∈ l) (m3 : ("squinch/code.ops", .agg (opT.map opD)) ∈ l) (m4 : ("internal/strconv.uint64pow10", Lib.tabData .u64 Lib.pow10Tab) ∈ l) : Lv W := by
  have ht : Lib.Utf8Tabs (Tryz.laysValid_ren.g 3) (Tryz.laysValid_ren.g 4) W :=
    utf8Tabs_of_readsT (U8Types.of196 Tryz.laysValid) ⟨by kernel_rfl, by kernel_rfl, by kernel_rfl, by kernel_rfl, by kernel_rfl, by kernel_rfl, by kernel_rfl⟩ (Lib.laidMet.reads h m1) (Lib.laidMet.reads h m2)
  obtain ⟨o1, o2⟩ := ops_of (Lib.laidMet.reads h m3)
  obtain ⟨t, fr, hp⟩ := pow_of (Lib.laidMet.reads h m4)
  obtain ⟨m, hm⟩ := Tryz.laysCut.s1_3 W hsh
  obtain ⟨cs, t2, fr2, hb⟩ := id o2
  exact ⟨⟨⟨ht, lt_cell (ht.1 0 (by decide)), lt_cell (ht.2 0 (by decide)).1⟩, ⟨m, hm⟩, lt_cell hm, o1, o2, lt_blk hb⟩, ⟨t, fr, hp⟩, lt_blk hp⟩
theorem tabs_of {W : World} (h : laidMetH Tryz.prog laidL W) (hsh : W.ShapedOpen Tryz.prog) : Lv W := by
  rw [laid_plain] at h
  refine lv_of h hsh ?_ ?_ ?_ ?_
  · rw [← first_eq]; exact .tail _ (.tail _ (.tail _ (.tail _ (.tail _ (.head _)))))
  · rw [← accept_eq]; exact .tail _ (.tail _ (.tail _ (.head _)))
  · rw [← ops_eq]; exact .tail _ (.tail _ (.tail _ (.tail _ (.head _))))
  · rw [← pow_eq]; exact .tail _ (.tail _ (.head _))
/-- The settled world, the listed variables laid. -/
noncomputable def laidWorld (os : Os) : World := World.laidAll Tryz.prog os laidL
theorem laid_met (os : Os) (args : Array Value) : laidMetH Tryz.prog laidL ((laidWorld os).forCall (fun _ _ => 0) ⟨#[], args, []⟩).memory := by
  rw [laid_plain]
  exact laidMet_laidAll args (by kernel_rfl) (by kernel_rfl)
theorem laid_shaped (os : Os) (args : Array Value) : ((laidWorld os).forCall (fun _ _ => 0) ⟨#[], args, []⟩).Shaped Tryz.prog := World.shaped_of_ZipB (by kernel_rfl) (by kernel_rfl)
/-- The same, for the row that lists the two errors too. -/
noncomputable def laidR : List (String × DataW Unit) := Rows.codeBothRow.laid
theorem laidR_plain (W : World) : laidMetH Tryz.prog laidR W = laidMet Tryz.prog laidR W := MakeChecks.laidMetH_plain _ _ _ (by kernel_rfl)
theorem ev_of {W : World} {n nm : String} {d : DataW Unit} {g : Nat} (h : VarReads Tryz.prog W n (.iface nm d)) (hg : Tryz.prog.globalNamed n = some g) (ht : (Tryz.prog.globals[g]?).map (·.type) = some 80) : ∃ ev, W.cell? ⟨g, 0, none⟩ = some ev ∧ (ev = .nilIface ∨ ∃ te pe, ev = .iface te pe) := by
  obtain ⟨g', t, cs, fuel, p, hg', hty, hvar, hd⟩ := h
  obtain rfl := Option.some.inj (hg.symm.trans hg')
  obtain rfl := Option.some.inj (ht.symm.trans hty)
  obtain ⟨f1, u, v, hcs, _, _⟩ := iface_of_trod Tryz.underlying80 hd
  exact ⟨.iface u v, by rw [World.var?_cell hg hvar 0, ← Array.getElem?_toList, hcs]; rfl, .inr ⟨u, v, rfl⟩⟩
theorem tabsR_of {W : World} (h : laidMetH Tryz.prog laidR W) (hsh : W.ShapedOpen Tryz.prog) : Lv W ∧ Ev W.heap.size W := by
  rw [laidR_plain] at h
  refine ⟨lv_of h hsh ?_ ?_ ?_ ?_, ?_⟩
  · rw [← first_eq]; exact .tail _ (.tail _ (.tail _ (.tail _ (.tail _ (.tail _ (.tail _ (.head _)))))))
  · rw [← accept_eq]; exact .tail _ (.tail _ (.tail _ (.head _)))
  · rw [← ops_eq]; exact .tail _ (.tail _ (.tail _ (.tail _ (.tail _ (.tail _ (.head _))))))
  · rw [← pow_eq]; exact .tail _ (.tail _ (.head _))
  · have m1 : ("strconv.ErrRange", Rows.laid_strconv_ErrRange) ∈ laidR := .tail _ (.tail _ (.tail _ (.tail _ (.head _))))
    have m2 : ("strconv.ErrSyntax", Rows.laid_strconv_ErrSyntax) ∈ laidR := .tail _ (.tail _ (.tail _ (.tail _ (.tail _ (.head _)))))
    obtain ⟨e1, c1, k1⟩ := ev_of (g := Tryz.laysParse_ren.g 16) (Lib.laidMet.reads h m1) (by kernel_rfl) (by kernel_rfl)
    obtain ⟨e2, c2, k2⟩ := ev_of (g := Tryz.laysParse_ren.g 15) (Lib.laidMet.reads h m2) (by kernel_rfl) (by kernel_rfl)
    exact ⟨⟨e2, c2, k2⟩, ⟨e1, c1, k1⟩, lt_cell c2, lt_cell c1⟩
noncomputable def laidWorldR (os : Os) : World := World.laidAll Tryz.prog os laidR
theorem laid_metR (os : Os) (args : Array Value) : laidMetH Tryz.prog laidR ((laidWorldR os).forCall (fun _ _ => 0) ⟨#[], args, []⟩).memory := by
  rw [laidR_plain]
  exact laidMet_laidAll args (by kernel_rfl) (by kernel_rfl)
theorem laid_shapedR (os : Os) (args : Array Value) : ((laidWorldR os).forCall (fun _ _ => 0) ⟨#[], args, []⟩).Shaped Tryz.prog := World.shaped_of_ZipB (by kernel_rfl) (by kernel_rfl)
end Go.Proofs.YtioonbfinnigpaaGreatDoor

