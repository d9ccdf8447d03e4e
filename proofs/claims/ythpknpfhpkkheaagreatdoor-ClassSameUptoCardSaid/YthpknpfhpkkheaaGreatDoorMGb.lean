/- Parts of the proof (Iter, Kind, DocN, Shelf, Kind2, Kind3, Kind4, Srow, Apps, Glob, Args, PackV). -/
import Derived.Test.YthpknpfhpkkheaaGreatDoorMGa
import Derived.ChangeKeysEq
import Derived.ChangeShapes
import Derived.Deep.Slices
import Derived.Laws.BitsAllLaws
import Derived.Laws.IdiomRangeMap
import Derived.Laws.RangeAny
import Derived.Laws.StructEq
import Derived.Lib.AppendStr
import Derived.Lib.IndexBytes
import Derived.Lib.IndexLaws
import Derived.Lib.Zigzag
import Derived.Shelf.Strings.OnBuilder
import Derived.Shelf.Strings.Prefix
import Derived.Shelf.Strings.Search2
import Derived.Shelf.Strings.Search3
import Derived.Shelf.Unicode.ValidAny
import Derived.SizedLaws
import Derived.Test.YthpknpfhpkkheaaGreatDoorProg
import Derived.Test.YthpknpfhpkkheaaGreatDoorRows
namespace Go.Proofs.YthpknpfhpkkheaaGreatDoor
open Go Go.RowKit Go.MapKept
set_option linter.unusedVariables false
set_option linter.unusedSimpArgs false
section map
variable {K V : Type} (ke : K → Value) (ve : V → Value)
/-- An iterator over a map: what it has handed out. -/
def Itm (w : World) (bi bm : Nat) (L D : List (K × V)) : Prop :=
  ∃ (es : Array MapEntry) (ck : Nat) (seen : Array Nat) (S : List MapEntry), w.heap[bm]? = some (.map es ck) ∧ Stamped es ck ∧ es.toList.map (fun e => (e.key, e.val)) = L.map (fun p => (ke p.1, ve p.2)) ∧ w.heap[bi]? = some (.mapIter (some bm) ck seen ck) ∧
    seen.toList = S.map (·.born) ∧ (∀ e ∈ S, e ∈ es.toList) ∧ S.map (fun e => (e.key, e.val)) = D.map (fun p => (ke p.1, ve p.2)) ∧ (∀ p ∈ D, p ∈ L) ∧ D.Nodup
variable {ke : K → Value} {ve : V → Value} {w w' : World} {bi bm : Nat} {L D : List (K × V)}
end map
section ops
variable {K V : Type} {ke : K → Value} {ve : V → Value}
variable {P : Program} {n : Nat} {ops : Array Oper} {rest : List Oper} {N : Cn} {w : World} {f : Fr} {d : Tmp} {ty : TypeId} {pos : String} {af : Array Edge} {g : Option (Nat × Bool)} {dst : Option Tmp} {bi bm : Nat} {L D : List (K × V)}
theorem r_ext1_0 {x : Operand} {a : Value} (hx : ev f x = .tuple #[a]) : (execOp (ev f) ⟨dst, .extract x 0, ty, pos, af, g⟩).run P w = .ok (.value a) w := r_extract hx rfl
theorem eq_struct {t : TypeId} {fs : Array Field} {xs ys : Array Value} (ht : P.underlying t = some (.struct fs)) (hp : P.stoodInHeld t = false) : (Op.equal t (.agg xs) (.agg ys)).run P w = (Op.eqFields 9999 xs ys fs.toList).run P w := by
  have e : P.fieldsOf t = fs := by simp [Program.fieldsOf, ht]
  have := run_equalIn_struct (P := P) w 9999 t xs ys (by rw [e]; exact ht) hp
  rw [e] at this
  exact this
theorem eqF_nil {d : Nat} {xs ys : Array Value} : (Op.eqFields d xs ys []).run P w = .ok (decide True) w := by simp [Op.eqFields]
theorem eqF_cons {d : Nat} {xs ys : Array Value} {fs : List Field} {f : Field} {a b : Value} {p q : Prop} [Decidable p] [Decidable q] (hn : f.name ≠ "_") (hk : P.plainKey f.type = true) (hx : xs[f.offset]? = some a) (hy : ys[f.offset]? = some b)
    (he : (Op.equalIn d f.type a b).run P w = .ok (decide p) w) (hr : (Op.eqFields d xs ys fs).run P w = .ok (decide q) w) : (Op.eqFields d xs ys (f :: fs)).run P w = .ok (decide (p ∧ q)) w := by
  simp only [Op.eqFields, if_pos hn, Sem.run_bind, run_part_plain w hk hx, run_part_plain w hk hy, he, Result.andThen_ok]
  by_cases hp : p
  ·
   rw [decide_eq_true hp]; simp only [Bool.not_true, Bool.false_eq_true, if_false, hr]
   simp [hp]
  · rw [decide_eq_false hp]; simp [hp]
theorem eqI_int {d : Nat} {t : TypeId} {k : IntKind} {a b : Int} (h : P.underlying t = some (.int k)) : (Op.equalIn (d + 1) t (.int k a) (.int k b)).run P w = .ok (decide (a = b)) w := by
  rw [run_equalIn_int w d t k k a b h]
  by_cases e : a = b <;> simp [e]
theorem eqI_bool {d : Nat} {t : TypeId} {a b : Bool} (h : P.underlying t = some .bool) : (Op.equalIn (d + 1) t (.bool a) (.bool b)).run P w = .ok (decide (a = b)) w := by
  rw [run_equalIn_bool' w d t a b h]
  by_cases e : a = b <;> simp [e]
theorem eqI_string {d : Nat} {t : TypeId} {a b : ByteArray} (h : P.underlying t = some .string) : (Op.equalIn (d + 1) t (.string a) (.string b)).run P w = .ok (decide (a = b)) w := by
  rw [run_equalIn_string w d t a b h, ← beq_toListBytes]
  by_cases e : a = b
  · rw [decide_eq_true e, (bytes_beq a b).2 e]
  ·
   rw [decide_eq_false e]
   cases h2 : a == b with
   | false => rfl
   | true => exact absurd ((bytes_beq a b).1 h2) e
def putA : List (Nat × Value) → List Value → Option (List Value)
  | [], cs => some cs
  | (i, v) :: r, cs => if i < cs.length then putA r (cs.set i v) else none
theorem r_neqR {x y : Operand} {t : TypeId} {xs ys : Array Value} {p : Prop} [Decidable p] (hx : ev f x = .agg xs) (hy : ev f y = .agg ys) (hg : P.eqGuardType P.depth t = false) (h : (Op.equal t (.agg xs) (.agg ys)).run P w = .ok (decide p) w) : (execOp (ev f) ⟨dst, .binOp .neq t x y t, ty, pos, af, g⟩).run P w = .ok (.value (.bool (decide (¬ p)))) w := by
  simp [execOp, hx, hy, eqGuard, binOp, h, hg]
/-! ### texts -/
def Its (w : World) (bi : Nat) (s : ByteArray) (at_ : Nat) : Prop := w.heap[bi]? = some (.stringIter s at_)
theorem Its.to {w w' : World} {s : ByteArray} {a : Nat} (h : Its w bi s a) (c : Sm w w' bi) : Its w' bi s a := (c.2 (lt_of_block h)).trans h
theorem L_ranges {x : Operand} {t : TypeId} {s : ByteArray} (hu : P.underlying t = some .string) (hw : Wants ops f ⟨some d, .range t x, ty, pos, af, g⟩) (hn : Nat.blt d n = true) (hx : ev f x = .string s)
    (hc : ∀ w1 bi, Its w1 bi s 0 → bi = w.heap.size → w1.heap.size = bi + 1 → Nw w w1 → Wl P n ops rest N (upd f d (.pointer (some ⟨bi, 0, none⟩))) w1) : Wl P n ops (⟨some d, .range t x, ty, pos, af, g⟩ :: rest) N f w := by
  have hr := run_range_string (P := P) w t s hu
  exact L_run hw rfl hn (by simp [execOp, hx, hr]; rfl) (hc (w.alloc (.stringIter s 0)) _ (heap_alloc w _).1 rfl (by simp) (Ch.alloc w _))
theorem L_nexts {x : Operand} {s : ByteArray} {a : Nat} (hw : Wants ops f ⟨some d, .next x true, ty, pos, af, g⟩) (hn : Nat.blt d n = true) (hx : ev f x = .pointer (some ⟨bi, 0, none⟩)) (h : Its w bi s a)
    (h0 : ¬ a < s.size → Wl P n ops rest N (upd f d (.tuple #[.bool false])) w)
    (hc : ∀ w1, a < s.size → Its w1 bi s (a + (Utf8.decode s a).2) → w1.heap.size = w.heap.size → Ch (fun j => j = bi) w w1 → Wl P n ops rest N (upd f d (.tuple #[.bool true, .int .i64 a, .int .i32 (Utf8.decode s a).1])) w1) : Wl P n ops (⟨some d, .next x true, ty, pos, af, g⟩ :: rest) N f w := by
  by_cases hl : a < s.size
  ·
   refine L_run hw rfl hn (w' := { w with heap := w.heap.setIfInBounds bi (.stringIter s (a + (Utf8.decode s a).2)) }) ?_ (hc _ hl (heap_set h).1 (by simp) ⟨rfl, rfl, rfl, by simp, fun i _ hi => (heap_set h).2 i hi⟩)
   simp only [execOp, hx, Instr.next, getObj, setObj, Sem.run_bind, Sem.run, show w.heap[bi]? = some (.stringIter s a) from h, Result.andThen, hl, if_true]
   simp [goInt]
  ·
   refine L_run hw rfl hn ?_ (h0 hl)
   simp [execOp, hx, Instr.next, getObj, Sem.run, show w.heap[bi]? = some (.stringIter s a) from h, hl]
end ops
/-! ### changes by the blocks' types, or to maps -/
def Tm (base : Nat) (w : World) (ts : List TypeId) (j : Nat) : Prop := base ≤ j ∧ ((∃ cs t fr, w.heap[j]? = some (.cells cs t fr) ∧ t ∈ ts) ∨ ∃ es ck, w.heap[j]? = some (.map es ck))
/-! ### results that lie in cells -/
theorem r_ret_ct {P : Program} {w : World} {f : Fr} {fn : Func} {T : Value → World → Prop} {p0 : Nat} {t0 e0' : TypeId} {b0 : Nat} {cs0 : Array Value} {dd0 : TypeDesc} {i1 : Nat} {v1 : Value} (hr : fn.results = #[.cell p0 t0, .tmp i1]) (hp0 : f p0 = .pointer (some ⟨b0, 0, none⟩)) (hu0 : P.underlying t0 = some dd0) (hd0 : (match dd0 with | .struct _ | .array _ _ => true | _ => false) = true) (hb0 : Bk w b0 cs0 e0') (hi0 : (P.info? t0).map (·.size) = some cs0.size) (h1 : f i1 = v1) (h : T (.tuple #[.agg cs0, v1]) w) : Rt P fn T f w := fun tm ht => by
  obtain ⟨fr0, hb0, _⟩ := hb0
  have e0 : tm[p0]?.getD undef = .pointer (some ⟨b0, 0, none⟩) := by have := ht p0; rw [hp0] at this; simpa using this
  have e1 : tm[i1]?.getD undef = v1 := by have := ht i1; rw [h1] at this; simpa using this
  refine ⟨.tuple #[.agg cs0, v1], ?_, h⟩
  simp [results, hr, asAddr, e0, run_loadVar_row w b0 e0' t0 cs0 fr0 dd0 hb0 hu0 hd0 hi0, e1]
/-! What the walks ask for again and again: what is told of an older world is brought to this one; what is left out is found by tactics where a law is used. -/
theorem Its.au {w w' : World} {bi : Nat} {s : ByteArray} {a : Nat} (h : Its w bi s a := by assumption) (c : Sm w w' bi := by repeat (first | exact Sm.refl _ _ | (refine Sm.stepT (by assumption) (by intro hlt hsm; first | exact not_no | (intro he; have he2 : _ = some _ := he; have := own_base (by assumption) he2; omega) | (intro he; have he2 : _ = _ := he; omega) | (intro he; have he2 : _ = some _ := he; have := ow_base (by assumption) he2; omega) | (intro he; have := he.1; omega) | exact bk_not (by assumption) hsm rfl | exact mp_not (by assumption) hsm | exact bkm_not (by assumption) hsm rfl | exact ownm_not (by assumption) hi hsm rfl | exact owm_not (by assumption) hi hsm rfl | exact own_not (by assumption) hi hsm rfl | exact ow_not (by assumption) hi hsm rfl | (intro he; have he2 : _ = some _ := he; have := Ow.lt (by assumption) he2; omega) | (intro he; have he2 : _ = some _ := he; have := Ow.lt (by assumption) he2; have := own_base (by assumption) hi; omega) | (intro he; have he2 : _ = some _ := he; have := Ow.lt how he2; first | omega | (have := own_base (by assumption) hi; omega)) | (intro he; have he2 : _ = _ := he; have := Ow.lt how hi; omega) | (intro he; have he2 : _ = _ := he; have := own_base (by assumption) hi; omega) | (intro he; have he2 : _ = _ := he; have := ow_base (by assumption) hi; omega) | (intro he; have he2 : _ = _ := he; rw [he2] at hi; exact absurd hi (by assumption)) | (intro he; have he2 : _ = some _ := he; have h3 := own_lt (by assumption) he2; first | omega | (have h4 : _ = some _ := hi; simp [Value.ownBlock] at h4; omega)) | (intro he; have he2 : _ = some _ := he; have h3 := ow_base (by assumption) he2; have h4 : _ = some _ := hi; simp [Value.ownBlock] at h4; omega) | (intro he; have he2 : _ = some _ := he; exact absurd he2 (hsep _ hi)) | (intro he; have he2 : _ = _ := he; have := hlo _ hi; omega) | (intro he; have he2 : _ = some _ := he; have := hlo _ he2; omega) | (intro he; first | exact absurd he (by assumption) | exact absurd he.symm (by assumption)) | (intro he; have he2 : _ = _ ∨ _ = _ := he; omega)) ?_))) : Its w' bi s a := Its.to h c
end Go.Proofs.YthpknpfhpkkheaaGreatDoor

namespace Go.Proofs.YthpknpfhpkkheaaGreatDoor
open Go Go.RowKit
set_option linter.unusedVariables false
set_option maxRecDepth 100000
set_option linter.unusedSimpArgs false
def greatC (c : Int) : Prop := 65 ≤ c ∧ c ≤ 90
def smallC (c : Int) : Prop := 97 ≤ c ∧ c ≤ 122
def digitC (c : Int) : Prop := 48 ≤ c ∧ c ≤ 57
instance (c : Int) : Decidable (greatC c) := inferInstanceAs (Decidable (_ ∧ _))
instance (c : Int) : Decidable (smallC c) := inferInstanceAs (Decidable (_ ∧ _))
instance (c : Int) : Decidable (digitC c) := inferInstanceAs (Decidable (_ ∧ _))
def nameC (c : Int) : Prop := greatC c ∨ smallC c ∨ digitC c
instance (c : Int) : Decidable (nameC c) := inferInstanceAs (Decidable (_ ∨ _))
theorem bool_dec {p q : Prop} [Decidable p] [Decidable q] (h : p ↔ q) : (Value.bool (decide p)) = .bool (decide q) := by
  by_cases hp : p
  · rw [decide_eq_true hp, decide_eq_true (h.1 hp)]
  · rw [decide_eq_false hp, decide_eq_false (fun hq => hp (h.2 hq))]
theorem bool_t {q : Prop} [Decidable q] (h : q) : (Value.bool true) = .bool (decide q) := by rw [decide_eq_true h]
theorem bool_f {q : Prop} [Decidable q] (h : ¬ q) : (Value.bool false) = .bool (decide q) := by rw [decide_eq_false h]
theorem great_walk (c : Int) (w0 : World) : Does Tryz.prog 119 #[.int .i32 c] w0 (fun r w' => r = .bool (decide (greatC c)) ∧ w' = w0) := by
  refine fn_of (n := 9) (args := [.int .i32 c]) Tryz.func119 rfl rfl rfl (W_seq (W_region (L_r (r_ab rfl) (L_nil (W_seq (W_region (L_r (r_mi rfl) (L_r (r_geq rfl rfl) ?_))))))))
  refine L_r (r_mb rfl) ?_
  refine L_case (d := 5) rfl (fun h5 => ?_) (fun h5 => ?_)
  ·
   refine L_g (r_mi rfl) ?_
   refine L_g (r_leq rfl rfl) (L_r (r_pt rfl rfl) (L_r (r_ab rfl) (L_nil (W_ret ?_))))
   refine ret1 (v := .bool _) rfl rfl ?_
   exact ⟨by first | (apply bool_dec; unfold greatC; omega) | (apply bool_t; unfold greatC; omega) | (apply bool_f; unfold greatC; omega), rfl⟩
  ·
   refine L_ps (L_ps (L_r (r_pf rfl rfl) (L_r (r_ab rfl) (L_nil (W_ret ?_)))))
   refine ret1 (v := .bool _) rfl rfl ?_
   exact ⟨by first | (apply bool_dec; unfold greatC; omega) | (apply bool_t; unfold greatC; omega) | (apply bool_f; unfold greatC; omega), rfl⟩
theorem small_walk (c : Int) (w0 : World) : Does Tryz.prog 158 #[.int .i32 c] w0 (fun r w' => r = .bool (decide (smallC c)) ∧ w' = w0) := by
  refine fn_of (n := 9) (args := [.int .i32 c]) Tryz.func158 rfl rfl rfl (W_seq (W_region (L_r (r_ab rfl) (L_nil (W_seq (W_region (L_r (r_mi rfl) (L_r (r_geq rfl rfl) ?_))))))))
  refine L_r (r_mb rfl) ?_
  refine L_case (d := 5) rfl (fun h5 => ?_) (fun h5 => ?_)
  ·
   refine L_g (r_mi rfl) ?_
   refine L_g (r_leq rfl rfl) (L_r (r_pt rfl rfl) (L_r (r_ab rfl) (L_nil (W_ret ?_))))
   refine ret1 (v := .bool _) rfl rfl ?_
   exact ⟨by first | (apply bool_dec; unfold smallC; omega) | (apply bool_t; unfold smallC; omega) | (apply bool_f; unfold smallC; omega), rfl⟩
  ·
   refine L_ps (L_ps (L_r (r_pf rfl rfl) (L_r (r_ab rfl) (L_nil (W_ret ?_)))))
   refine ret1 (v := .bool _) rfl rfl ?_
   exact ⟨by first | (apply bool_dec; unfold smallC; omega) | (apply bool_t; unfold smallC; omega) | (apply bool_f; unfold smallC; omega), rfl⟩
theorem nmc_walk (c : Int) (w0 : World) : Does Tryz.prog 157 #[.int .i32 c] w0 (fun r w' => r = .bool (decide (nameC c)) ∧ w' = w0) := by
  refine fn_of (n := 17) (args := [.int .i32 c]) Tryz.func157 rfl rfl rfl (W_seq (W_region (L_r (r_ab rfl) (L_nil (W_seq (W_region (L_r (r_mi rfl) ?_)))))))
  refine L_call (.plain rfl) rfl rfl (r_call Tryz.func119 rfl rfl rfl (by rfl)) (great_walk c _) ?_
  rintro v4 w1 ⟨rfl, rfl⟩
  refine L_r (r_mb rfl) ?_
  refine L_caseb (d := 5) rfl (fun h5 => ?_) (fun h5 => ?_)
  ·
   refine L_ps (L_ps (L_r (r_pt rfl rfl) (L_r (r_mb rfl) (L_ps (L_ps (L_ps ?_))))))
   refine L_pu ?_
   refine L_pu (L_ps (L_r (r_pt rfl rfl) (L_r (r_ab rfl) (L_nil (W_ret ?_)))))
   refine ret1 (v := .bool _) rfl rfl ?_
   refine ⟨?_, rfl⟩
   (try simp only [decide_eq_true_eq, decide_eq_false_iff_not] at *)
   first | (apply bool_dec; unfold nameC greatC smallC digitC at *; omega) | (apply bool_t; unfold nameC greatC smallC digitC at *; omega) | (apply bool_f; unfold nameC greatC smallC digitC at *; omega)
  ·
   refine L_g (r_mi rfl) ?_
   refine L_call (.yes 2 false rfl rfl) rfl rfl (r_call Tryz.func158 rfl rfl rfl (by rfl)) (small_walk c _) ?_
   rintro v7 w2 ⟨rfl, rfl⟩
   refine L_r (r_pf rfl rfl) (L_r (r_mb rfl) ?_)
   refine L_caseb (d := 9) rfl (fun h9 => ?_) (fun h9 => ?_)
   ·
    refine L_ps (L_ps (L_ps ?_))
    refine L_pu ?_
    refine L_pu (L_ps (L_r (r_pt rfl rfl) (L_r (r_ab rfl) (L_nil (W_ret ?_)))))
    refine ret1 (v := .bool _) rfl rfl ?_
    refine ⟨?_, rfl⟩
    (try simp only [decide_eq_true_eq, decide_eq_false_iff_not] at *)
    first | (apply bool_dec; unfold nameC greatC smallC digitC at *; omega) | (apply bool_t; unfold nameC greatC smallC digitC at *; omega) | (apply bool_f; unfold nameC greatC smallC digitC at *; omega)
   ·
    refine L_g (r_mi rfl) ?_
    refine L_g (r_geq rfl rfl) ?_
    refine L_g (r_mb rfl) ?_
    refine L_case (d := 12) rfl (fun h12 => ?_) (fun h12 => ?_)
    ·
     refine L_g (r_mi rfl) ?_
     refine L_g (r_leq rfl rfl) ?_
     refine L_g (r_pt rfl rfl) (L_r (r_pf rfl rfl) (L_r (r_ab rfl) (L_nil (W_ret ?_))))
     refine ret1 (v := .bool _) rfl rfl ?_
     refine ⟨?_, rfl⟩
     (try simp only [decide_eq_true_eq, decide_eq_false_iff_not] at *)
     first | (apply bool_dec; unfold nameC greatC smallC digitC at *; omega) | (apply bool_t; unfold nameC greatC smallC digitC at *; omega) | (apply bool_f; unfold nameC greatC smallC digitC at *; omega)
    ·
     refine L_ps (L_ps ?_)
     refine L_g (r_pf rfl rfl) (L_r (r_pf rfl rfl) (L_r (r_ab rfl) (L_nil (W_ret ?_))))
     refine ret1 (v := .bool _) rfl rfl ?_
     refine ⟨?_, rfl⟩
     (try simp only [decide_eq_true_eq, decide_eq_false_iff_not] at *)
     first | (apply bool_dec; unfold nameC greatC smallC digitC at *; omega) | (apply bool_t; unfold nameC greatC smallC digitC at *; omega) | (apply bool_f; unfold nameC greatC smallC digitC at *; omega)
def allN (s : ByteArray) : Prop := ∀ i, i < s.size → nameC (bat s i).toNat
instance (s : ByteArray) : Decidable (allN s) := inferInstanceAs (Decidable (∀ i, i < s.size → _))
theorem dec_nm (s : ByteArray) (a : Nat) (h : a < s.size) : (nameC ((Utf8.decode s a).1 : Nat) → (Utf8.decode s a).2 = 1 ∧ nameC (bat s a).toNat) ∧ (¬ nameC ((Utf8.decode s a).1 : Nat) → ¬ nameC (bat s a).toNat) := by
  have hb : (bat s a) = s[a]'h := by
    unfold bat bs
    rw [List.getD_eq_getElem?_getD, Array.getElem?_toList, Array.getElem?_eq_getElem (by exact h)]
    rfl
  rw [hb]
  by_cases ha : (s[a]'h).toNat < 128
  · rw [decode_ascii s a h ha]; exact ⟨fun h => ⟨rfl, h⟩, fun h => h⟩
  ·
   have := decode_high s a h (by omega)
   have h2 : ¬ nameC ((s[a]'h).toNat : Int) := by unfold nameC greatC smallC digitC; omega
   exact ⟨fun h3 => by unfold nameC greatC smallC digitC at h3; omega, fun _ => h2⟩
theorem all_walk (s : ByteArray) (w0 : World) : Does Tryz.prog 156 #[.string s, .func (.func 157) #[] #[]] w0 (fun r w' => r = .bool (decide (allN s)) ∧ Nw w0 w') := by
  refine fn_of (n := 16) (args := [.string s, .func (.func 157) #[] #[]]) Tryz.func156 rfl rfl rfl (W_seq (W_region (L_r (r_ab rfl) (L_nil (W_seq (W_seq (W_region (L_r (r_ms rfl) ?_))))))))
  refine L_ranges Tryz.underlying9 (.plain rfl) rfl rfl (fun w1 b8 hit8 eb1 hs1 c1 => (L_nil (W_block ?_)))
  refine W_loopF [1, 8] (fun mz_ f W => ∃ (a : Nat), True ∧ (a ≤ s.size ∧ Its W b8 s a ∧ (∀ i, i < a → nameC (bat s i).toNat) ∧ Nw w0 W) ∧ mz_ = s.size - a) ?_ ?_
  ·
   refine ⟨_, 0, trivial, ?_, rfl⟩
   exact ⟨by omega, Its.au, fun i hi => by omega, Ch.au⟩
  rintro m0 g0 w2 ⟨a, -, hR0, rfl⟩
  obtain ⟨ha, hit, hok, hnw⟩ := hR0
  have hz := hnw.size
  refine W_seq (W_region ?_)
  refine L_nexts (.plain rfl) rfl rfl Its.au (fun hall9 => ?_) (fun w3 hin9 hit9 hs3 c3 => ?_)
  ·
   refine L_r (r_ext1_0 rfl) (L_nil (W_seq ?_))
   refine W_false rfl ?_
   refine W_exit ?_
   repeat (first | refine blk_hit ?_ | refine blk_miss rfl ?_)
   refine W_seq (W_region (L_r (r_ab rfl) (L_nil (W_ret ?_))))
   refine ret1 (v := .bool _) rfl rfl ?_
   first
     | (refine ⟨bool_f (fun h => ?_), Ch.au⟩
        simp only [Bool.not_eq_true', decide_eq_false_iff_not] at h15
        exact (dec_nm s a hin9).2 h15 (h a hin9))
     | exact ⟨bool_t (fun i hi => hok i (by omega)), Ch.au⟩
  ·
   refine L_r (r_ext3_0 rfl) (L_nil (W_seq ?_))
   refine W_true rfl (W_skip (W_block (W_seq (W_region (L_r (r_ext3_2 rfl) (L_r (r_ai rfl) (L_nil (W_seq ?_))))))))
   refine W_region (L_r (r_mv) (L_r (r_mi rfl) ?_))
   refine L_call (.plain rfl) rfl rfl (r_call Tryz.func157 rfl rfl rfl (by rfl)) (nmc_walk _ _) ?_
   rintro v14 w4 ⟨rfl, rfl⟩
   refine L_r (r_not rfl) (L_nil ?_)
   refine W_bool rfl (fun h15 => ?_) (fun h15 => ?_)
   ·
    refine W_seq (W_region (L_r (r_ab rfl) (L_nil (W_ret ?_))))
    refine ret1 (v := .bool _) rfl rfl ?_
    first
      | (refine ⟨bool_f (fun h => ?_), Ch.au⟩
         simp only [Bool.not_eq_true', decide_eq_false_iff_not] at h15
         exact (dec_nm s a hin9).2 h15 (h a hin9))
      | exact ⟨bool_t (fun i hi => hok i (by omega)), Ch.au⟩
   ·
    refine W_skip ?_
    refine ⟨⟨fx2, fx2, trivial⟩, _, ?_, a + 1, trivial, ?_, rfl⟩
    · omega
    simp only [Bool.not_eq_false', decide_eq_true_eq] at h15
    have hd := (dec_nm s a hin9).1 h15
    rw [hd.1] at hit9
    refine ⟨by omega, Its.au, fun i hi => ?_, Ch.au⟩
    by_cases e : i < a
    · exact hok i e
    ·
     have : i = a := by omega
     rw [this]; exact hd.2
def nameP (s : ByteArray) : Prop := 0 < s.size ∧ s.size ≤ 32 ∧ ¬ digitC (bat s 0).toNat ∧ allN s
instance (s : ByteArray) : Decidable (nameP s) := inferInstanceAs (Decidable (_ ∧ _))
theorem empty_size {s : ByteArray} (h : ¬ s = { data := #[] }) : 0 < s.size := by
  rcases Nat.eq_zero_or_pos s.size with h0 | h0
  · exact absurd (by
      obtain ⟨d⟩ := s
      have : d.size = 0 := h0
      rw [Array.eq_empty_of_size_eq_zero this]) h
  · exact h0
theorem name_walk (s : ByteArray) (w0 : World) : Does Tryz.prog 118 #[.string s] w0 (fun r w' => r = .bool (decide (nameP s)) ∧ Nw w0 w') := by
  refine fn_of (n := 22) (args := [.string s]) Tryz.func118 rfl rfl rfl (W_seq (W_region (L_r (r_ab rfl) (L_nil (W_seq (W_seq (W_region (L_r (r_ms rfl) ?_))))))))
  refine L_r (r_eqls rfl rfl) (L_r (r_mb rfl) ?_)
  refine L_case (d := 5) rfl (fun h5 => ?_) (fun h5 => ?_)
  ·
   refine L_ps (L_ps (L_ps (L_r (r_pt rfl rfl) (L_r (r_mb rfl) (L_ps (L_ps (L_ps (L_ps ?_))))))))
   refine L_pu ?_
   refine L_pu ?_
   refine L_pu (L_ps (L_r (r_pt rfl rfl) (L_nil ?_)))
   refine W_true rfl (W_seq (W_region (L_r (r_ab rfl) (L_nil (W_ret ?_)))))
   refine ret1 (v := .bool _) rfl rfl ?_
   refine ⟨?_, Ch.au⟩
   first
     | (apply bool_f; unfold nameP digitC; rintro ⟨k1, k2, k3, _⟩; first | omega | (subst h5; exact absurd k1 (by decide)))
     | (apply bool_dec; unfold nameP digitC; exact ⟨fun h => ⟨hpos, by omega, by omega, h⟩, fun h => h.2.2.2⟩)
  ·
   have hpos := empty_size (by assumption)
   refine L_g (r_ms rfl) ?_
   refine L_g (r_lens Tryz.underlying9 rfl) ?_
   refine L_g (r_gtr rfl rfl) (L_r (r_pf rfl rfl) (L_r (r_mb rfl) ?_))
   refine L_case (d := 10) rfl (fun h10 => ?_) (fun h10 => ?_)
   ·
    refine L_ps (L_ps (L_ps (L_ps ?_)))
    refine L_pu ?_
    refine L_pu ?_
    refine L_pu (L_ps (L_r (r_pt rfl rfl) (L_nil ?_)))
    refine W_true rfl (W_seq (W_region (L_r (r_ab rfl) (L_nil (W_ret ?_)))))
    refine ret1 (v := .bool _) rfl rfl ?_
    refine ⟨?_, Ch.au⟩
    first
      | (apply bool_f; unfold nameP digitC; rintro ⟨k1, k2, k3, _⟩; first | omega | (subst h5; exact absurd k1 (by decide)))
      | (apply bool_dec; unfold nameP digitC; exact ⟨fun h => ⟨hpos, by omega, by omega, h⟩, fun h => h.2.2.2⟩)
   ·
    refine L_g (r_ms rfl) ?_
    refine L_g (r_indexs Tryz.underlying9 rfl rfl (by omega) (by omega) (by conv => lhs; (try simp only [Nat.mul_one, Nat.zero_add, Int.toNat_natCast, Int.toNat_zero, Int.reduceToNat, Nat.reduceMul, Nat.reduceAdd]))) ?_
    refine L_g (r_geq rfl rfl) ?_
    refine L_g (r_mb rfl) ?_
    refine L_case (d := 14) rfl (fun h14 => ?_) (fun h14 => ?_)
    ·
     refine L_g (r_ms rfl) ?_
     refine L_g (r_indexs Tryz.underlying9 rfl rfl (by omega) (by omega) (by conv => lhs; (try simp only [Nat.mul_one, Nat.zero_add, Int.toNat_natCast, Int.toNat_zero, Int.reduceToNat, Nat.reduceMul, Nat.reduceAdd]))) ?_
     refine L_g (r_leq rfl rfl) ?_
     refine L_g (r_pt rfl rfl) (L_r (r_pf rfl rfl) (L_nil ?_))
     refine W_if rfl (fun h19 => ?_) (fun h19 => ?_)
     ·
      refine W_seq (W_region (L_r (r_ab rfl) (L_nil (W_ret ?_))))
      refine ret1 (v := .bool _) rfl rfl ?_
      refine ⟨?_, Ch.au⟩
      first
        | (apply bool_f; unfold nameP digitC; rintro ⟨k1, k2, k3, _⟩; first | omega | (subst h5; exact absurd k1 (by decide)))
        | (apply bool_dec; unfold nameP digitC; exact ⟨fun h => ⟨hpos, by omega, by omega, h⟩, fun h => h.2.2.2⟩)
     ·
      refine W_skip (W_seq (W_region (L_r (r_ms rfl) ?_)))
      refine L_call (.plain rfl) rfl rfl (r_call Tryz.func156 rfl rfl rfl (by rfl)) (all_walk s _) ?_
      rintro v21 w1 ⟨rfl, c1⟩
      have hz1 := c1.size
      refine L_r (r_ab rfl) (L_nil (W_ret ?_))
      refine ret1 (v := .bool _) rfl rfl ?_
      refine ⟨?_, Ch.au⟩
      first
        | (apply bool_f; unfold nameP digitC; rintro ⟨k1, k2, k3, _⟩; first | omega | (subst h5; exact absurd k1 (by decide)))
        | (apply bool_dec; unfold nameP digitC; exact ⟨fun h => ⟨hpos, by omega, by omega, h⟩, fun h => h.2.2.2⟩)
    ·
     refine L_ps (L_ps (L_ps ?_))
     refine L_g (r_pf rfl rfl) (L_r (r_pf rfl rfl) (L_nil ?_))
     refine W_false rfl (W_skip (W_seq (W_region (L_r (r_ms rfl) ?_))))
     refine L_call (.plain rfl) rfl rfl (r_call Tryz.func156 rfl rfl rfl (by rfl)) (all_walk s _) ?_
     rintro v21 w2 ⟨rfl, c2⟩
     have hz2 := c2.size
     refine L_r (r_ab rfl) (L_nil (W_ret ?_))
     refine ret1 (v := .bool _) rfl rfl ?_
     refine ⟨?_, Ch.au⟩
     first
       | (apply bool_f; unfold nameP digitC; rintro ⟨k1, k2, k3, _⟩; first | omega | (subst h5; exact absurd k1 (by decide)))
       | (apply bool_dec; unfold nameP digitC; exact ⟨fun h => ⟨hpos, by omega, by omega, h⟩, fun h => h.2.2.2⟩)
def classP (s : ByteArray) : Prop := nameP s ∧ greatC (bat s 0).toNat
instance (s : ByteArray) : Decidable (classP s) := inferInstanceAs (Decidable (_ ∧ _))
theorem class_walk (s : ByteArray) (w0 : World) : Does Tryz.prog 58 #[.string s] w0 (fun r w' => r = .bool (decide (classP s)) ∧ Nw w0 w') := by
  refine fn_of (n := 11) (args := [.string s]) Tryz.func58 rfl rfl rfl (W_seq (W_region (L_r (r_ab rfl) (L_nil (W_seq (W_region (L_r (r_ms rfl) ?_)))))))
  refine L_call (.plain rfl) rfl rfl (r_call Tryz.func118 rfl rfl rfl (by rfl)) (name_walk s _) ?_
  rintro v4 w1 ⟨rfl, c1⟩
  have hz1 := c1.size
  refine L_r (r_mb rfl) ?_
  refine L_caseb (d := 5) rfl (fun h5 => ?_) (fun h5 => ?_)
  ·
   have hnm : nameP s := by simpa using (by assumption : decide (nameP s) = true)
   have hpos := hnm.1
   have hbt := (bat s 0).toNat_lt
   refine L_g (r_ms rfl) ?_
   refine L_g (r_indexs Tryz.underlying9 rfl rfl (by omega) (by omega) (by conv => lhs; (try simp only [Nat.mul_one, Nat.zero_add, Int.toNat_natCast, Int.toNat_zero, Int.reduceToNat, Nat.reduceMul, Nat.reduceAdd]))) ?_
   refine L_g (r_conv Tryz.underlying5 Tryz.underlying21 rfl (by first | exact wr_i32 (by omega) | rfl)) ?_
   refine L_call (.yes 2 true rfl rfl) rfl rfl (r_call Tryz.func119 rfl rfl rfl (by rfl)) (great_walk _ _) ?_
   rintro v9 w2 ⟨rfl, rfl⟩
   refine L_r (r_pt rfl rfl) (L_r (r_ab rfl) (L_nil (W_ret ?_)))
   refine ret1 (v := .bool _) rfl rfl ?_
   refine ⟨?_, Ch.au⟩
   first
     | exact bool_f (fun h => hnm h.1)
     | exact bool_dec ⟨fun h => ⟨hnm, h⟩, fun h => h.2⟩
  ·
   have hnm : ¬ nameP s := by simpa using (by assumption : decide (nameP s) = false)
   refine L_ps (L_ps (L_ps (L_ps (L_r (r_pf rfl rfl) (L_r (r_ab rfl) (L_nil (W_ret ?_)))))))
   refine ret1 (v := .bool _) rfl rfl ?_
   refine ⟨?_, Ch.au⟩
   first
     | exact bool_f (fun h => hnm h.1)
     | exact bool_dec ⟨fun h => ⟨hnm, h⟩, fun h => h.2⟩
end Go.Proofs.YthpknpfhpkkheaaGreatDoor

namespace Go.Proofs.YthpknpfhpkkheaaGreatDoor
open Go Go.RowKit
set_option linter.unusedVariables false
set_option maxRecDepth 100000
set_option linter.unusedSimpArgs false
theorem nm_step {i c : Nat} (h : ¬ (¬ ((97 ≤ c ∧ c ≤ 122) ∨ (65 ≤ c ∧ c ≤ 90)) ∧ (i = 0 ∨ c < 48 ∨ 57 < c))) : nameC (c : Int) ∧ (i = 0 → ¬ digitC (c : Int)) := by
  unfold nameC greatC smallC digitC
  omega
theorem nm_bad {i c : Nat} (h : ¬ ((97 ≤ c ∧ c ≤ 122) ∨ (65 ≤ c ∧ c ≤ 90)) ∧ (i = 0 ∨ c < 48 ∨ 57 < c)) (h1 : nameC (c : Int)) (h2 : i = 0 → ¬ digitC (c : Int)) : False := by
  unfold nameC greatC smallC digitC at h1
  unfold digitC at h2
  omega
theorem rname_walk (s : ByteArray) (w0 : World) (hs : s.size ≤ 1000000000000000) : Does Tryz.prog 133 #[.string s] w0 (fun r w' => r = .bool (decide (nameP s)) ∧ Nw w0 w') := by
  refine fn_of (n := 59) (args := [.string s]) Tryz.func133 rfl rfl rfl (W_seq (W_region (L_r (r_ab rfl) (L_nil (W_seq (W_seq (W_region (L_r (r_ai rfl) ?_))))))))
  refine L_nil (W_block ?_)
  refine W_loopF [0] (fun mz_ f W => ∃ (i : Nat), f 3 = .int .i64 i ∧ (i ≤ s.size ∧ (∀ j, j < i → nameC (bat s j).toNat) ∧ (0 < i → ¬ digitC (bat s 0).toNat) ∧ Nw w0 W) ∧ mz_ = s.size - i) ?_ ?_
  ·
   refine ⟨_, 0, rfl, ?_, rfl⟩
   exact ⟨by omega, fun j hj => absurd hj (by omega), fun h => absurd h (by omega), Ch.au⟩
  rintro m0 g0 w1 ⟨i, hf3, hR0, rfl⟩
  refine W_as 3 hf3 rfl ?_
  clear hf3
  obtain ⟨hi, hall, h0, hnw⟩ := hR0
  have hz := hnw.size
  refine W_seq (W_seq (W_region (L_r (r_mi rfl) (L_r (r_ms rfl) ?_))))
  refine L_r (r_lens Tryz.underlying9 rfl) (L_r (r_lss rfl rfl) (L_nil ?_))
  refine W_if rfl (fun h8 => ?_) (fun h8 => ?_)
  ·
   refine W_skip (W_seq (W_block ?_))
   refine W_cutF [0, 3] (fun f W => f 4 = .bool (decide ((97 ≤ (bat s i).toNat ∧ (bat s i).toNat ≤ 122) ∨ (65 ≤ (bat s i).toNat ∧ (bat s i).toNat ≤ 90))) ∧ (W = w1)) ?_ ?_
   ·
    refine W_region (L_r (r_ms rfl) (L_r (r_mi rfl) ?_))
    refine L_r (r_indexs Tryz.underlying9 rfl rfl (by omega) (by omega) (by conv => lhs; (try simp only [Nat.mul_one, Nat.zero_add, Int.toNat_natCast, Int.toNat_zero, Int.reduceToNat, Nat.reduceMul, Nat.reduceAdd]))) (L_r (r_geq rfl rfl) (L_r (r_mb rfl) ?_))
    refine L_case (d := 15) rfl (fun h15 => ?_) (fun h15 => ?_)
    ·
     refine L_g (r_ms rfl) ?_
     refine L_g (r_mi rfl) ?_
     refine L_g (r_indexs Tryz.underlying9 rfl rfl (by omega) (by omega) (by conv => lhs; (try simp only [Nat.mul_one, Nat.zero_add, Int.toNat_natCast, Int.toNat_zero, Int.reduceToNat, Nat.reduceMul, Nat.reduceAdd]))) ?_
     refine L_g (r_leq rfl rfl) (L_r (r_pt rfl rfl) (L_r (r_mb rfl) ?_))
     refine L_case (d := 21) rfl (fun h21 => ?_) (fun h21 => ?_)
     ·
      refine L_ps (L_ps (L_ps (L_ps (L_ps ?_))))
      refine L_pu ?_
      refine L_pu ?_
      refine L_pu ?_
      refine L_pu (L_ps (L_r (r_pt rfl rfl) (L_r (r_ab rfl) (L_nil ?_))))
      refine ⟨⟨fx2, fx2, trivial⟩, (dec_t (by omega)), ?_⟩
      rfl
     ·
      refine L_g (r_ms rfl) ?_
      refine L_g (r_mi rfl) ?_
      refine L_g (r_indexs Tryz.underlying9 rfl rfl (by omega) (by omega) (by conv => lhs; (try simp only [Nat.mul_one, Nat.zero_add, Int.toNat_natCast, Int.toNat_zero, Int.reduceToNat, Nat.reduceMul, Nat.reduceAdd]))) ?_
      refine L_g (r_geq rfl rfl) ?_
      refine L_g (r_mb rfl) ?_
      refine L_case (d := 26) rfl (fun h26 => ?_) (fun h26 => ?_)
      ·
       refine L_g (r_ms rfl) ?_
       refine L_g (r_mi rfl) ?_
       refine L_g (r_indexs Tryz.underlying9 rfl rfl (by omega) (by omega) (by conv => lhs; (try simp only [Nat.mul_one, Nat.zero_add, Int.toNat_natCast, Int.toNat_zero, Int.reduceToNat, Nat.reduceMul, Nat.reduceAdd]))) ?_
       refine L_g (r_leq rfl rfl) ?_
       refine L_g (r_pt rfl rfl) (L_r (r_pf rfl rfl) (L_r (r_ab rfl) (L_nil ?_)))
       refine ⟨⟨fx2, fx2, trivial⟩, (dec_i (by omega)), ?_⟩
       rfl
      ·
       refine L_ps (L_ps (L_ps (L_ps ?_)))
       refine L_g (r_pf rfl rfl) (L_r (r_pf rfl rfl) (L_r (r_ab rfl) (L_nil ?_)))
       refine ⟨⟨fx2, fx2, trivial⟩, (dec_f (by omega)), ?_⟩
       rfl
    ·
     refine L_ps (L_ps (L_ps (L_ps (L_r (r_pf rfl rfl) (L_r (r_mb rfl) ?_)))))
     refine L_g (r_ms rfl) ?_
     refine L_g (r_mi rfl) ?_
     refine L_g (r_indexs Tryz.underlying9 rfl rfl (by omega) (by omega) (by conv => lhs; (try simp only [Nat.mul_one, Nat.zero_add, Int.toNat_natCast, Int.toNat_zero, Int.reduceToNat, Nat.reduceMul, Nat.reduceAdd]))) ?_
     refine L_g (r_geq rfl rfl) ?_
     refine L_g (r_mb rfl) ?_
     refine L_case (d := 26) rfl (fun h26 => ?_) (fun h26 => ?_)
     ·
      refine L_g (r_ms rfl) ?_
      refine L_g (r_mi rfl) ?_
      refine L_g (r_indexs Tryz.underlying9 rfl rfl (by omega) (by omega) (by conv => lhs; (try simp only [Nat.mul_one, Nat.zero_add, Int.toNat_natCast, Int.toNat_zero, Int.reduceToNat, Nat.reduceMul, Nat.reduceAdd]))) ?_
      refine L_g (r_leq rfl rfl) ?_
      refine L_g (r_pt rfl rfl) (L_r (r_pf rfl rfl) (L_r (r_ab rfl) (L_nil ?_)))
      refine ⟨⟨fx2, fx2, trivial⟩, (dec_i (by omega)), ?_⟩
      rfl
     ·
      refine L_ps (L_ps (L_ps (L_ps ?_)))
      refine L_g (r_pf rfl rfl) (L_r (r_pf rfl rfl) (L_r (r_ab rfl) (L_nil ?_)))
      refine ⟨⟨fx2, fx2, trivial⟩, (dec_f (by omega)), ?_⟩
      rfl
   rintro gcr4 w2 ⟨hf4, hCr4⟩
   refine W_as 4 hf4 rfl ?_
   clear hf4
   subst hCr4
   refine W_cutF [0, 3] (fun f W => f 50 = .bool (decide (¬ ((97 ≤ (bat s i).toNat ∧ (bat s i).toNat ≤ 122) ∨ (65 ≤ (bat s i).toNat ∧ (bat s i).toNat ≤ 90)) ∧ (i = 0 ∨ (bat s i).toNat < 48 ∨ 57 < (bat s i).toNat))) ∧ (W = w2)) ?_ ?_
   ·
    refine W_region (L_r (r_mb rfl) (L_r (r_notp rfl) (L_r (r_mb rfl) ?_)))
    refine L_case (d := 35) rfl (fun h35 => ?_) (fun h35 => ?_)
    ·
     refine L_g (r_mi rfl) ?_
     refine L_g (r_eql rfl rfl) ?_
     refine L_g (r_mb rfl) ?_
     refine L_case (d := 38) rfl (fun h38 => ?_) (fun h38 => ?_)
     ·
      refine L_ps (L_ps (L_ps (L_ps ?_)))
      refine L_g (r_pt rfl rfl) ?_
      refine L_g (r_mb rfl) (L_ps (L_ps (L_ps (L_ps ?_))))
      refine L_g (r_pt rfl rfl) (L_r (r_pt rfl rfl) (L_nil ?_))
      refine ⟨⟨fx2, fx2, trivial⟩, (dec_t (by omega)), ?_⟩
      rfl
     ·
      refine L_g (r_ms rfl) ?_
      refine L_g (r_mi rfl) ?_
      refine L_g (r_indexs Tryz.underlying9 rfl rfl (by omega) (by omega) (by conv => lhs; (try simp only [Nat.mul_one, Nat.zero_add, Int.toNat_natCast, Int.toNat_zero, Int.reduceToNat, Nat.reduceMul, Nat.reduceAdd]))) ?_
      refine L_g (r_lss rfl rfl) ?_
      refine L_g (r_pf rfl rfl) ?_
      refine L_g (r_mb rfl) ?_
      refine L_case (d := 44) rfl (fun h44 => ?_) (fun h44 => ?_)
      ·
       refine L_ps (L_ps (L_ps (L_ps ?_)))
       refine L_g (r_pt rfl rfl) (L_r (r_pt rfl rfl) (L_nil ?_))
       refine ⟨⟨fx2, fx2, trivial⟩, (dec_t (by omega)), ?_⟩
       rfl
      ·
       refine L_g (r_ms rfl) ?_
       refine L_g (r_mi rfl) ?_
       refine L_g (r_indexs Tryz.underlying9 rfl rfl (by omega) (by omega) (by conv => lhs; (try simp only [Nat.mul_one, Nat.zero_add, Int.toNat_natCast, Int.toNat_zero, Int.reduceToNat, Nat.reduceMul, Nat.reduceAdd]))) ?_
       refine L_g (r_gtr rfl rfl) ?_
       refine L_g (r_pf rfl rfl) (L_r (r_pt rfl rfl) (L_nil ?_))
       refine ⟨⟨fx2, fx2, trivial⟩, (dec_i (by omega)), ?_⟩
       rfl
    ·
     refine L_ps (L_ps (L_ps ?_))
     refine L_pu ?_
     refine L_pu ?_
     refine L_pu ?_
     refine L_pu (L_ps (L_ps ?_))
     refine L_pu ?_
     refine L_pu ?_
     refine L_pu ?_
     refine L_pu (L_ps (L_r (r_pf rfl rfl) (L_nil ?_)))
     refine ⟨⟨fx2, fx2, trivial⟩, (dec_f (by omega)), ?_⟩
     rfl
   rintro gcr5 w3 ⟨hf50, hCr5⟩
   refine W_as 50 hf50 rfl ?_
   clear hf50
   subst hCr5
   refine W_if rfl (fun h50 => ?_) (fun h50 => ?_)
   ·
    refine W_seq (W_region (L_r (r_ab rfl) (L_nil (W_ret ?_))))
    refine ret1 (v := .bool _) rfl rfl ?_
    refine ⟨?_, Ch.au⟩
    first
    | exact congrArg Value.bool (decide_eq_false (fun hp => nm_bad h50 (hp.2.2.2 i (by omega)) (fun h => by subst h; exact hp.2.2.1))).symm
    | exact congrArg Value.bool (decide_eq_decide.2 ⟨fun h => ⟨by omega, by omega, h0 (by omega), fun j hj => hall j (by omega)⟩, fun h => by have := h.2.1; omega⟩)
    | exact congrArg Value.bool (decide_eq_false (fun hp => by have := hp.1; omega)).symm
   ·
    refine W_skip (W_region (L_r (r_mi rfl) ?_))
    refine L_r (r_add rfl rfl (by first | exact wr_i64 (by omega) | rfl)) (L_r (r_ai rfl) (L_nil ?_))
    refine ⟨⟨fx2, trivial⟩, _, ?_, i + 1, rfl, ?_, rfl⟩
    · omega
    have hst := nm_step h50
    refine ⟨by omega, fun j hj => ?_, fun _ => ?_, Ch.au⟩
    ·
     rcases Nat.lt_or_ge j i with h | h
     · exact hall j h
     ·
      have e : j = i := by omega
      subst e; exact hst.1
    ·
     rcases Nat.eq_zero_or_pos i with h | h
     · subst h; exact hst.2 rfl
     · exact h0 h
  ·
   refine W_exit ?_
   repeat (first | refine blk_hit ?_ | refine blk_miss rfl ?_)
   refine W_seq (W_region (L_r (r_ms rfl) ?_))
   refine L_r (r_lens Tryz.underlying9 rfl) (L_r (r_geq rfl rfl) (L_r (r_mb rfl) ?_))
   refine L_case (d := 54) rfl (fun h54 => ?_) (fun h54 => ?_)
   ·
    refine L_g (r_ms rfl) ?_
    refine L_g (r_lens Tryz.underlying9 rfl) ?_
    refine L_g (r_leq rfl rfl) (L_r (r_pt rfl rfl) (L_r (r_ab rfl) (L_nil (W_ret ?_))))
    refine ret1 (v := .bool _) rfl rfl ?_
    refine ⟨?_, Ch.au⟩
    first
    | exact congrArg Value.bool (decide_eq_false (fun hp => nm_bad h50 (hp.2.2.2 i (by omega)) (fun h => by subst h; exact hp.2.2.1))).symm
    | exact congrArg Value.bool (decide_eq_decide.2 ⟨fun h => ⟨by omega, by omega, h0 (by omega), fun j hj => hall j (by omega)⟩, fun h => by have := h.2.1; omega⟩)
    | exact congrArg Value.bool (decide_eq_false (fun hp => by have := hp.1; omega)).symm
   ·
    refine L_ps (L_ps (L_ps (L_r (r_pf rfl rfl) (L_r (r_ab rfl) (L_nil (W_ret ?_))))))
    refine ret1 (v := .bool _) rfl rfl ?_
    refine ⟨?_, Ch.au⟩
    first
    | exact congrArg Value.bool (decide_eq_false (fun hp => nm_bad h50 (hp.2.2.2 i (by omega)) (fun h => by subst h; exact hp.2.2.1))).symm
    | exact congrArg Value.bool (decide_eq_decide.2 ⟨fun h => ⟨by omega, by omega, h0 (by omega), fun j hj => hall j (by omega)⟩, fun h => by have := h.2.1; omega⟩)
    | exact congrArg Value.bool (decide_eq_false (fun hp => by have := hp.1; omega)).symm
theorem mem_iff {s : ByteArray} (h : nameP s) : (97 ≤ ((bat s 0).toNat : Int)) ↔ (nameP s ∧ ¬ classP s) := by
  obtain ⟨h1, h2, h3, h4⟩ := id h
  have h5 := h4 0 h1
  unfold nameC greatC smallC digitC at h5
  unfold digitC at h3
  constructor
  ·
   intro h6
   refine ⟨h, fun hc => ?_⟩
   have h7 := hc.2
   unfold greatC at h7
   omega
  ·
   intro h6
   have h7 : ¬ greatC (bat s 0).toNat := fun hg => h6.2 ⟨h, hg⟩
   unfold greatC at h7
   omega
theorem rmember_walk (s : ByteArray) (w0 : World) (hs : s.size ≤ 1000000000000000) : Does Tryz.prog 72 #[.string s] w0 (fun r w' => r = .bool (decide (nameP s ∧ ¬ classP s)) ∧ Nw w0 w') := by
  refine fn_of (n := 10) (args := [.string s]) Tryz.func72 rfl rfl rfl (W_seq (W_region (L_r (r_ab rfl) (L_nil (W_seq (W_region (L_r (r_ms rfl) ?_)))))))
  refine L_call (.plain rfl) rfl rfl (r_call Tryz.func133 rfl rfl rfl (by rfl)) (rname_walk s _ hs) ?_
  rintro v4 w1 ⟨rfl, c1⟩
  have hz1 := c1.size
  refine L_r (r_mb rfl) ?_
  refine L_caseb (d := 5) rfl (fun h5 => ?_) (fun h5 => ?_)
  ·
   have hnp := of_decide_eq_true h5
   have hsp := hnp.1
   refine L_g (r_ms rfl) ?_
   refine L_g (r_indexs Tryz.underlying9 rfl rfl (by omega) (by omega) (by conv => lhs; (try simp only [Nat.mul_one, Nat.zero_add, Int.toNat_natCast, Int.toNat_zero, Int.reduceToNat, Nat.reduceMul, Nat.reduceAdd]))) ?_
   refine L_g (r_geq rfl rfl) (L_r (r_pt rfl rfl) (L_r (r_ab rfl) (L_nil (W_ret ?_))))
   refine ret1 (v := .bool _) rfl rfl ?_
   refine ⟨?_, Ch.au⟩
   first
   | exact congrArg Value.bool (decide_eq_decide.2 (mem_iff hnp))
   | exact congrArg Value.bool (decide_eq_false (fun hp => hnp hp.1)).symm
  ·
   have hnp := of_decide_eq_false h5
   refine L_ps (L_ps (L_ps (L_r (r_pf rfl rfl) (L_r (r_ab rfl) (L_nil (W_ret ?_))))))
   refine ret1 (v := .bool _) rfl rfl ?_
   refine ⟨?_, Ch.au⟩
   first
   | exact congrArg Value.bool (decide_eq_decide.2 (mem_iff hnp))
   | exact congrArg Value.bool (decide_eq_false (fun hp => hnp hp.1)).symm
end Go.Proofs.YthpknpfhpkkheaaGreatDoor

namespace Go.Proofs
open Go.Shelf
def Tryz.laysValid_ren : Go.Shelf.Ren := ⟨fun | 196 => 170 | 259 => 186 | n => n, fun | 9 => 9 | 4 => 4 | 3 => 3 | 5 => 5 | 12 => 12 | 119 => 187 | 0 => 0 | 46 => 166 | 139 => 190 | 138 => 189 | 53 => 80 | n => n, fun | 3 => 1 | 4 => 2 | n => n⟩
theorem Tryz.laysValid : Go.Proofs.Lays.n196 Tryz.prog Tryz.laysValid_ren := {
  mixed := by kernel_rfl
  f196 := Tryz.func170.trans (congrArg some (by kernel_rfl))
  f259 := Tryz.func186.trans (congrArg some (by kernel_rfl))
  t0 := Tryz.underlying0
  a0 := Tryz.isAgg0
  z0 := Tryz.sizeOf0
  v0 := Tryz.zeroValue0
  t3 := Tryz.underlying3
  a3 := Tryz.isAgg3
  z3 := Tryz.sizeOf3
  v3 := Tryz.zeroValue3
  t4 := Tryz.underlying4
  a4 := Tryz.isAgg4
  z4 := Tryz.sizeOf4
  v4 := Tryz.zeroValue4
  t5 := Tryz.underlying5
  a5 := Tryz.isAgg5
  z5 := Tryz.sizeOf5
  v5 := Tryz.zeroValue5
  t9 := Tryz.underlying9
  a9 := Tryz.isAgg9
  z9 := Tryz.sizeOf9
  v9 := Tryz.zeroValue9
  t12 := Tryz.underlying12
  a12 := Tryz.isAgg12
  z12 := Tryz.sizeOf12
  v12 := Tryz.zeroValue12
  t46 := Tryz.underlying166
  a46 := Tryz.isAgg166
  z46 := Tryz.sizeOf166
  v46 := Tryz.zeroValue166
  t53 := Tryz.underlying80
  a53 := Tryz.isAgg80
  z53 := Tryz.sizeOf80
  v53 := Tryz.zeroValue80
  t119 := Tryz.underlying187
  a119 := Tryz.isAgg187
  z119 := Tryz.sizeOf187
  t138 := Tryz.underlying189
  a138 := Tryz.isAgg189
  z138 := Tryz.sizeOf189
  v138 := Tryz.zeroValue189
  t139 := Tryz.underlying190
  a139 := Tryz.isAgg190
  z139 := Tryz.sizeOf190
  v139 := Tryz.zeroValue190
  g3 := by kernel_rfl
  g4 := by kernel_rfl }
def Tryz.laysHasSuffix_ren : Go.Shelf.Ren := ⟨fun | 100 => 160 | 207 => 175 | n => n, fun | 9 => 9 | 4 => 4 | 3 => 3 | n => n, fun | n => n⟩
theorem Tryz.laysHasSuffix : Go.Proofs.Lays.n100 Tryz.prog Tryz.laysHasSuffix_ren := {
  mixed := by kernel_rfl
  f100 := Tryz.func160.trans (congrArg some (by kernel_rfl))
  f207 := Tryz.func175.trans (congrArg some (by kernel_rfl))
  t3 := Tryz.underlying3
  a3 := Tryz.isAgg3
  z3 := Tryz.sizeOf3
  v3 := Tryz.zeroValue3
  t4 := Tryz.underlying4
  a4 := Tryz.isAgg4
  z4 := Tryz.sizeOf4
  v4 := Tryz.zeroValue4
  t9 := Tryz.underlying9
  a9 := Tryz.isAgg9
  z9 := Tryz.sizeOf9
  v9 := Tryz.zeroValue9 }
def Tryz.laysTrimSuffix_ren : Go.Shelf.Ren := ⟨fun | 102 => 161 | 209 => 176 | 207 => 175 | n => n, fun | 9 => 9 | 4 => 4 | 3 => 3 | n => n, fun | n => n⟩
theorem Tryz.laysTrimSuffix : Go.Proofs.Lays.n102 Tryz.prog Tryz.laysTrimSuffix_ren := {
  mixed := by kernel_rfl
  f102 := Tryz.func161.trans (congrArg some (by kernel_rfl))
  f207 := Tryz.func175.trans (congrArg some (by kernel_rfl))
  f209 := Tryz.func176.trans (congrArg some (by kernel_rfl))
  t3 := Tryz.underlying3
  a3 := Tryz.isAgg3
  z3 := Tryz.sizeOf3
  v3 := Tryz.zeroValue3
  t4 := Tryz.underlying4
  a4 := Tryz.isAgg4
  z4 := Tryz.sizeOf4
  v4 := Tryz.zeroValue4
  t9 := Tryz.underlying9
  a9 := Tryz.isAgg9
  z9 := Tryz.sizeOf9
  v9 := Tryz.zeroValue9 }
def Tryz.laysContains_ren : Go.Shelf.Ren := ⟨fun | 144 => 178 | 143 => 187 | 219 => 190 | 217 => 193 | 225 => 194 | 224 => 195 | 267 => 196 | 266 => 197 | 314 => 198 | n => n, fun | 9 => 9 | 4 => 4 | 3 => 3 | 5 => 5 | 46 => 166 | 146 => 196 | 51 => 195 | n => n, fun | 1 => 3 | n => n⟩
theorem Tryz.laysContains : Go.Proofs.Lays.n144 Tryz.prog Tryz.laysContains_ren := {
  mixed := by kernel_rfl
  f143 := Tryz.func187.trans (congrArg some (by kernel_rfl))
  f144 := Tryz.func178.trans (congrArg some (by kernel_rfl))
  f217 := Tryz.func193.trans (congrArg some (by kernel_rfl))
  f219 := Tryz.func190.trans (congrArg some (by kernel_rfl))
  f224 := Tryz.func195.trans (congrArg some (by kernel_rfl))
  f225 := Tryz.func194.trans (congrArg some (by kernel_rfl))
  f266 := Tryz.func197.trans (congrArg some (by kernel_rfl))
  f267 := Tryz.func196.trans (congrArg some (by kernel_rfl))
  f314 := Tryz.func198.trans (congrArg some (by kernel_rfl))
  t3 := Tryz.underlying3
  a3 := Tryz.isAgg3
  z3 := Tryz.sizeOf3
  v3 := Tryz.zeroValue3
  t4 := Tryz.underlying4
  a4 := Tryz.isAgg4
  z4 := Tryz.sizeOf4
  v4 := Tryz.zeroValue4
  t5 := Tryz.underlying5
  a5 := Tryz.isAgg5
  z5 := Tryz.sizeOf5
  v5 := Tryz.zeroValue5
  t9 := Tryz.underlying9
  a9 := Tryz.isAgg9
  z9 := Tryz.sizeOf9
  v9 := Tryz.zeroValue9
  t46 := Tryz.underlying166
  a46 := Tryz.isAgg166
  z46 := Tryz.sizeOf166
  v46 := Tryz.zeroValue166
  t51 := Tryz.underlying195
  a51 := Tryz.isAgg195
  z51 := Tryz.sizeOf195
  v51 := Tryz.zeroValue195
  t146 := Tryz.underlying196
  a146 := Tryz.isAgg196
  z146 := Tryz.sizeOf196
  v146 := Tryz.zeroValue196
  g1 := by kernel_rfl }
def Tryz.laysIndex_ren : Go.Shelf.Ren := ⟨fun | 219 => 190 | 217 => 193 | 225 => 194 | 224 => 195 | 267 => 196 | 266 => 197 | 314 => 198 | n => n, fun | 9 => 9 | 3 => 3 | 4 => 4 | 5 => 5 | 46 => 166 | 146 => 196 | 51 => 195 | n => n, fun | 1 => 3 | n => n⟩
theorem Tryz.laysIndex : Go.Proofs.Lays.n219 Tryz.prog Tryz.laysIndex_ren := {
  mixed := by kernel_rfl
  f217 := Tryz.func193.trans (congrArg some (by kernel_rfl))
  f219 := Tryz.func190.trans (congrArg some (by kernel_rfl))
  f224 := Tryz.func195.trans (congrArg some (by kernel_rfl))
  f225 := Tryz.func194.trans (congrArg some (by kernel_rfl))
  f266 := Tryz.func197.trans (congrArg some (by kernel_rfl))
  f267 := Tryz.func196.trans (congrArg some (by kernel_rfl))
  f314 := Tryz.func198.trans (congrArg some (by kernel_rfl))
  t3 := Tryz.underlying3
  a3 := Tryz.isAgg3
  z3 := Tryz.sizeOf3
  v3 := Tryz.zeroValue3
  t4 := Tryz.underlying4
  a4 := Tryz.isAgg4
  z4 := Tryz.sizeOf4
  v4 := Tryz.zeroValue4
  t5 := Tryz.underlying5
  a5 := Tryz.isAgg5
  z5 := Tryz.sizeOf5
  v5 := Tryz.zeroValue5
  t9 := Tryz.underlying9
  a9 := Tryz.isAgg9
  z9 := Tryz.sizeOf9
  v9 := Tryz.zeroValue9
  t46 := Tryz.underlying166
  a46 := Tryz.isAgg166
  z46 := Tryz.sizeOf166
  v46 := Tryz.zeroValue166
  t51 := Tryz.underlying195
  a51 := Tryz.isAgg195
  z51 := Tryz.sizeOf195
  v51 := Tryz.zeroValue195
  t146 := Tryz.underlying196
  a146 := Tryz.isAgg196
  z146 := Tryz.sizeOf196
  v146 := Tryz.zeroValue196
  g1 := by kernel_rfl }
def Tryz.laysJoin_ren : Go.Shelf.Ren := ⟨fun | 156 => 43 | 165 => 105 | 166 => 106 | 169 => 107 | 240 => 150 | 241 => 151 | 276 => 173 | 277 => 174 | n => n, fun | 31 => 22 | 9 => 9 | 3 => 3 | 4 => 4 | 0 => 0 | 20 => 20 | 72 => 124 | 76 => 128 | 70 => 122 | 37 => 31 | 75 => 127 | 127 => 162 | 164 => 174 | 5 => 5 | 80 => 107 | n => n, fun | n => n⟩
theorem Tryz.laysJoin : Go.Proofs.Lays.n156 Tryz.prog Tryz.laysJoin_ren := {
  mixed := by kernel_rfl
  f156 := Tryz.func43.trans (congrArg some (by kernel_rfl))
  f165 := Tryz.func105.trans (congrArg some (by kernel_rfl))
  f166 := Tryz.func106.trans (congrArg some (by kernel_rfl))
  f169 := Tryz.func107.trans (congrArg some (by kernel_rfl))
  f240 := Tryz.func150.trans (congrArg some (by kernel_rfl))
  f241 := Tryz.func151.trans (congrArg some (by kernel_rfl))
  f276 := Tryz.func173.trans (congrArg some (by kernel_rfl))
  f277 := Tryz.func174.trans (congrArg some (by kernel_rfl))
  t0 := Tryz.underlying0
  a0 := Tryz.isAgg0
  z0 := Tryz.sizeOf0
  v0 := Tryz.zeroValue0
  t3 := Tryz.underlying3
  a3 := Tryz.isAgg3
  z3 := Tryz.sizeOf3
  v3 := Tryz.zeroValue3
  t4 := Tryz.underlying4
  a4 := Tryz.isAgg4
  z4 := Tryz.sizeOf4
  v4 := Tryz.zeroValue4
  t9 := Tryz.underlying9
  a9 := Tryz.isAgg9
  z9 := Tryz.sizeOf9
  v9 := Tryz.zeroValue9
  t20 := Tryz.underlying20
  a20 := Tryz.isAgg20
  z20 := Tryz.sizeOf20
  v20 := Tryz.zeroValue20
  t31 := Tryz.underlying22
  a31 := Tryz.isAgg22
  z31 := Tryz.sizeOf22
  v31 := Tryz.zeroValue22
  t37 := Tryz.underlying31
  a37 := Tryz.isAgg31
  z37 := Tryz.sizeOf31
  v37 := Tryz.zeroValue31
  t70 := Tryz.underlying122
  a70 := Tryz.isAgg122
  z70 := Tryz.sizeOf122
  v70 := Tryz.zeroValue122
  t72 := Tryz.underlying124
  a72 := Tryz.isAgg124
  z72 := Tryz.sizeOf124
  v72 := Tryz.zeroValue124
  t75 := Tryz.underlying127
  a75 := Tryz.isAgg127
  z75 := Tryz.sizeOf127
  v75 := Tryz.zeroValue127
  t76 := Tryz.underlying128
  a76 := Tryz.isAgg128
  z76 := Tryz.sizeOf128
  v76 := Tryz.zeroValue128
  t127 := Tryz.underlying162
  a127 := Tryz.isAgg162
  z127 := Tryz.sizeOf162
  v127 := Tryz.zeroValue162
  t164 := Tryz.underlying174
  a164 := Tryz.isAgg174
  z164 := Tryz.sizeOf174
  v164 := Tryz.zeroValue174 }
end Go.Proofs

namespace Go.Proofs.YthpknpfhpkkheaaGreatDoor
open Go Go.RowKit
set_option linter.unusedVariables false
set_option linter.unusedSimpArgs false
set_option maxRecDepth 100000
theorem hsuf_use (s p : ByteArray) (w : World) (hs : s.size ≤ 1000000000000000) : Does Tryz.prog 160 #[.string s, .string p] w (fun r w' => r = .bool (Lib.hasSuffix (bs s) (bs p)) ∧ w' = w) :=
  Calls.mono (Any.strings_HasSuffix Tryz.laysHasSuffix s p w (by omega)) fun _ _ ⟨e, b⟩ => ⟨_, e, rfl, b⟩
theorem tsuf_use (s p : ByteArray) (w : World) (hs : s.size ≤ 1000000000000000) : Does Tryz.prog 161 #[.string s, .string p] w (fun r w' => r = .string (sb (Lib.trimSuffix (bs s) (bs p))) ∧ w' = w) :=
  Calls.mono (Any.strings_TrimSuffix Tryz.laysTrimSuffix s p w (by omega)) fun _ _ ⟨e, b⟩ => ⟨_, e, rfl, b⟩
theorem index1_use (s : ByteArray) (c : UInt8) (w : World) : Does Tryz.prog 190 #[.string s, .string { data := #[c] }] w (fun r w' => r = .int .i64 (Lib.indexByte (bs s) c) ∧ w' = w) :=
  Calls.mono (Any.stringslite_Index_one { Tryz.laysIndex with } s c w) fun _ _ ⟨e, b⟩ => ⟨_, e, rfl, b⟩
theorem extract_bs (s : ByteArray) (a b : Nat) : s.extract a b = sb (((bs s).drop a).take (b - a)) := Lib.extract_eq s a b
theorem cut_hit {s : ByteArray} {c : UInt8} {o : Nat} (h : Lib.indexByte (bs s) c = (o : Int)) : o < s.size ∧ Lib.cut (bs s) [c] = ((bs s).take o, (bs s).drop (o + 1), true) := by
  obtain ⟨h1, _⟩ := Lib.indexByte_some h
  refine ⟨by rw [← bs_length]; exact (List.getElem?_eq_some_iff.1 h1).1, ?_⟩
  unfold Lib.cut
  rw [Lib.index_one, h, if_pos (by omega)]; rfl
theorem cut_mis {s : ByteArray} {c : UInt8} (h : ¬ 0 ≤ Lib.indexByte (bs s) c) : Lib.cut (bs s) [c] = (bs s, [], false) := by
  unfold Lib.cut
  rw [Lib.index_one, if_neg h]
theorem scut_walk (s : ByteArray) (c : UInt8) (w0 : World) (hs : s.size ≤ 1000000000000000) : Does Tryz.prog 191 #[.string s, .string { data := #[c] }] w0 (fun r w' => r = .tuple #[.string (sb (Lib.cut (bs s) [c]).1), .string (sb (Lib.cut (bs s) [c]).2.1), .bool (Lib.cut (bs s) [c]).2.2] ∧ Nw w0 w') := by
  have hc1 : ({ data := #[c] } : ByteArray).size = 1 := rfl
  refine fn_of (n := 23) (args := [.string s, .string { data := #[c] }]) Tryz.func191 rfl rfl rfl (W_seq (W_region (L_r (r_as rfl) (L_r (r_as rfl) (L_r (r_ab rfl) (L_nil (W_seq (W_seq ?_))))))))
  refine W_region (L_r (r_ms rfl) (L_r (r_ms rfl) ?_))
  refine L_call (.plain rfl) rfl rfl (r_call Tryz.func190 rfl rfl rfl (by rfl)) (index1_use s c _) ?_
  rintro v10 w1 ⟨rfl, rfl⟩
  refine L_r (r_ai rfl) (L_nil (W_seq (W_region (L_r (r_mi rfl) (L_r (r_geq rfl rfl) (L_nil ?_))))))
  refine W_if rfl (fun h12 => ?_) (fun h12 => ?_)
  ·
   obtain ⟨o, ho⟩ : ∃ o : Nat, Lib.indexByte (bs s) c = o := ⟨(Lib.indexByte (bs s) c).toNat, by omega⟩
   obtain ⟨hlt, hcut⟩ := cut_hit ho
   rw [hcut]
   rw [ho]
   refine W_seq ?_
   refine W_still (by kernel_rfl) (by kernel_rfl) (fun w2 c2 hs2 => ?_)
   refine H_r (r_ms rfl) ?_
   refine H_r (r_mi rfl) ?_
   refine H_r (r_slices_h Tryz.underlying9 rfl rfl (by omega) (by omega)) ?_
   refine H_r (r_ms rfl) ?_
   refine H_r (r_mi rfl) ?_
   refine H_r (r_ms rfl) ?_
   refine H_r (r_lens Tryz.underlying9 rfl) ?_
   refine H_r (r_add rfl rfl (by first | exact wr_i64 (by omega) | rfl)) ?_
   have hxs : s.extract (o + 1) s.size = sb ((bs s).drop (o + 1)) := by { rw [extract_bs, List.take_of_length_le (by rw [List.length_drop, bs_length]; omega)] }
   have hxt : s.extract 0 o = sb ((bs s).take o) := by { rw [extract_bs]; simp }
   refine H_r (r_slices_l Tryz.underlying9 rfl rfl (by omega) (by omega)) ?_
   refine H_r (r_as rfl) ?_
   refine H_r (r_as rfl) ?_
   refine H_r (r_ab rfl) ?_
   refine H_nil (W_ret ?_)
   refine ret3 (u := .string _) (v := .string _) (x := .bool _) rfl rfl rfl rfl ?_
   first
   | (refine ⟨?_, Ch.au⟩
      rw [← hxs, ← hxt]; rfl)
   | (refine ⟨?_, Ch.au⟩
      rw [cut_mis (by assumption), sb_bs]; rfl)
  ·
   refine W_skip (W_seq (W_region (L_r (r_ms rfl) (L_r (r_as rfl) (L_r (r_as rfl) (L_r (r_ab rfl) (L_nil (W_ret ?_))))))))
   refine ret3 (u := .string _) (v := .string _) (x := .bool _) rfl rfl rfl rfl ?_
   first
   | (refine ⟨?_, Ch.au⟩
      rw [← hxs, ← hxt]; rfl)
   | (refine ⟨?_, Ch.au⟩
      rw [cut_mis (by assumption), sb_bs]; rfl)
theorem cut1_walk (s : ByteArray) (c : UInt8) (w0 : World) (hs : s.size ≤ 1000000000000000) : Does Tryz.prog 188 #[.string s, .string { data := #[c] }] w0 (fun r w' => r = .tuple #[.string (sb (Lib.cut (bs s) [c]).1), .string (sb (Lib.cut (bs s) [c]).2.1), .bool (Lib.cut (bs s) [c]).2.2] ∧ Nw w0 w') := by
  refine fn_of (n := 13) (args := [.string s, .string { data := #[c] }]) Tryz.func188 rfl rfl rfl (W_seq (W_region (L_r (r_as rfl) (L_r (r_as rfl) (L_r (r_ab rfl) (L_nil (W_seq (W_region ?_))))))))
  refine L_r (r_ms rfl) (L_r (r_ms rfl) ?_)
  refine L_call (.plain rfl) rfl rfl (r_call Tryz.func191 rfl rfl rfl (by rfl)) (scut_walk s c _ hs) ?_
  rintro v9 w1 ⟨rfl, c1⟩
  have hz1 := c1.size
  refine L_r (r_ext3_0 rfl) (L_r (r_ext3_1 rfl) (L_r (r_ext3_2 rfl) (L_r (r_as rfl) (L_r (r_as rfl) (L_r (r_ab rfl) (L_nil (W_ret ?_)))))))
  refine ret3 (u := .string _) (v := .string _) (x := .bool _) rfl rfl rfl rfl ?_
  exact ⟨rfl, Ch.au⟩
abbrev arr2 : ByteArray := { data := #[91, 93] }
def endsA (l : List UInt8) : Bool := Lib.hasSuffix l [91, 93]
theorem endsA_le {l : List UInt8} (h : endsA l = true) : 2 ≤ l.length := by
  have h' : ([91, 93] : List UInt8).isSuffixOf l = true := h
  exact (List.isSuffixOf_iff_suffix.1 h').length_le
def baseF (l : List UInt8) : List UInt8 × Nat :=
  if h : endsA l = true then ((baseF (l.take (l.length - 2))).1, (baseF (l.take (l.length - 2))).2 + 1) else (l, 0)
termination_by l.length
decreasing_by
  all_goals
    have := endsA_le h
    rw [List.length_take]; omega
theorem baseF_yes {l : List UInt8} (h : endsA l = true) : baseF l = ((baseF (l.take (l.length - 2))).1, (baseF (l.take (l.length - 2))).2 + 1) := by rw [baseF, dif_pos h]
theorem baseF_no {l : List UInt8} (h : endsA l = false) : baseF l = (l, 0) := by rw [baseF, dif_neg (by rw [h]; decide)]
theorem baseF_fact : ∀ (k : Nat) (l : List UInt8), l.length = k → 2 * (baseF l).2 ≤ l.length ∧ (baseF l).1 = l.take (l.length - 2 * (baseF l).2) := by
  intro k
  induction k using Nat.strongRecOn with
  | ind k ih =>
    intro l hl
    cases h : endsA l with
    | false => rw [baseF_no h]; exact ⟨Nat.zero_le _, by simp⟩
    | true =>
      have h2 := endsA_le h
      have hlen : (l.take (l.length - 2)).length = l.length - 2 := by rw [List.length_take]; omega
      obtain ⟨i1, i2⟩ := ih (l.length - 2) (by omega) (l.take (l.length - 2)) hlen
      rw [baseF_yes h]
      rw [hlen] at i1 i2
      refine ⟨by show 2 * (_ + 1) ≤ _; omega, ?_⟩
      show (baseF (l.take (l.length - 2))).1 = _
      rw [i2, List.take_take]
      congr 1
      show min _ _ = l.length - 2 * (_ + 1)
      omega
theorem baseF_le (l : List UInt8) : 2 * (baseF l).2 ≤ l.length := (baseF_fact _ l rfl).1
theorem baseF_take (l : List UInt8) : (baseF l).1 = l.take (l.length - 2 * (baseF l).2) := (baseF_fact _ l rfl).2
def plainP (s : ByteArray) : Prop := s = { data := #[105, 110, 116] } ∨ s = { data := #[98, 111, 111, 108] } ∨ s = { data := #[116, 101, 120, 116] }
instance (s : ByteArray) : Decidable (plainP s) := inferInstanceAs (Decidable (_ ∨ _))
def baseS (s : ByteArray) : ByteArray := sb (baseF (bs s)).1
def baseN (s : ByteArray) : Nat := (baseF (bs s)).2
def rightK (s : ByteArray) : Prop := baseN s ≤ 3 ∧ (plainP (baseS s) ∨ classP (baseS s))
instance (s : ByteArray) : Decidable (rightK s) := inferInstanceAs (Decidable (_ ∧ _))
theorem baseN_le (s : ByteArray) : 2 * baseN s ≤ s.size := by have := baseF_le (bs s); rw [bs_length] at this; exact this
theorem trim_yes {l : List UInt8} (h : endsA l = true) : Lib.trimSuffix l [91, 93] = l.take (l.length - 2) := by unfold Lib.trimSuffix; exact if_pos h
theorem base_walk (s : ByteArray) (w0 : World) (hs : s.size ≤ 1000000000000000) : Does Tryz.prog 125 #[.string s] w0 (fun r w' => r = .tuple #[.string (baseS s), .int .i64 (baseN s : Int)] ∧ Nw w0 w') := by
  refine fn_of (n := 13) (args := [.string s]) Tryz.func125 rfl rfl rfl (W_seq (W_region (L_r (r_as rfl) (L_r (r_ai rfl) (L_nil (W_seq (W_region (L_r (r_ai rfl) ?_))))))))
  refine L_nil (W_seq (W_block ?_))
  refine W_loopF [] (fun mz_ f W => ∃ (cur : ByteArray) (n : Nat), f 0 = .string cur ∧ f 4 = .int .i64 n ∧ (baseF (bs s) = ((baseF (bs cur)).1, (baseF (bs cur)).2 + n) ∧ cur.size + 2 * n = s.size ∧ Nw w0 W) ∧ mz_ = cur.size) ?_ ?_
  ·
   refine ⟨_, s, 0, rfl, rfl, ?_, rfl⟩
   exact ⟨rfl, by omega, Ch.au⟩
  rintro m0 g0 w1 ⟨cur, n, hf0, hf4, hR0, rfl⟩
  refine W_as 0 hf0 rfl ?_
  refine W_as 4 hf4 rfl ?_
  clear hf0 hf4
  obtain ⟨hb, hsz, hnw⟩ := hR0
  have hz := hnw.size
  refine W_seq (W_seq (W_region (L_r (r_ms rfl) ?_)))
  refine L_call (.plain rfl) rfl rfl (r_call Tryz.func160 rfl rfl rfl (by rfl)) (hsuf_use cur arr2 _ (by omega)) ?_
  rintro v6 w2 ⟨rfl, rfl⟩
  refine L_nil ?_
  refine W_bool rfl (fun h6 => ?_) (fun h6 => ?_)
  ·
   have h6' : endsA (bs cur) = true := h6
   refine W_skip (W_block (W_region (L_r (r_ms rfl) ?_)))
   refine L_call (.plain rfl) rfl rfl (r_call Tryz.func161 rfl rfl rfl (by rfl)) (tsuf_use cur arr2 _ (by omega)) ?_
   rintro v8 w3 ⟨rfl, rfl⟩
   refine L_r (r_mi rfl) ?_
   refine L_r (r_add rfl rfl (by first | exact wr_i64 (by omega) | rfl)) (L_r (r_as rfl) (L_r (r_ai rfl) (L_nil ?_)))
   refine ⟨trivial, _, ?_, sb (Lib.trimSuffix (bs cur) [91, 93]), n + 1, rfl, rfl, ?_, rfl⟩
   · rw [sb_size, trim_yes h6, List.length_take, bs_length]; have := endsA_le h6; rw [bs_length] at this; omega
   have h2 := endsA_le h6
   rw [bs_length] at h2
   refine ⟨?_, by rw [sb_size, trim_yes h6, List.length_take, bs_length]; omega, Ch.au⟩
   rw [hb, bs_sb, trim_yes h6, baseF_yes h6]
   exact Prod.ext rfl (by show _ + 1 + n = _ + (n + 1); omega)
  ·
   refine W_exit ?_
   repeat (first | refine blk_hit ?_ | refine blk_miss rfl ?_)
   refine W_seq (W_region (L_r (r_ms rfl) (L_r (r_mi rfl) (L_r (r_as rfl) (L_r (r_ai rfl) (L_nil (W_ret ?_)))))))
   refine ret2 (u := .string _) (v := .int _ _) rfl rfl rfl ?_
   have h6' : endsA (bs cur) = false := h6
   rw [baseF_no h6'] at hb
   refine ⟨?_, Ch.au⟩
   unfold baseS baseN
   rw [hb]
   show Value.tuple #[.string cur, .int .i64 n] = Value.tuple #[.string (sb (bs cur)), .int .i64 ((0 + n : Nat) : Int)]
   rw [sb_bs, Nat.zero_add]
theorem plain_walk (s : ByteArray) (w0 : World) : Does Tryz.prog 126 #[.string s] w0 (fun r w' => r = .bool (decide (plainP s)) ∧ w' = w0) := by
  refine fn_of (n := 13) (args := [.string s]) Tryz.func126 rfl rfl rfl (W_seq (W_region (L_r (r_ab rfl) (L_nil (W_seq (W_region (L_r (r_ms rfl) (L_r (r_eqls rfl rfl) ?_))))))))
  refine L_r (r_mb rfl) ?_
  refine L_case (d := 5) rfl (fun h5 => ?_) (fun h5 => ?_)
  ·
   refine L_ps (L_ps (L_r (r_pt rfl rfl) (L_r (r_mb rfl) (L_ps (L_ps (L_r (r_pt rfl rfl) (L_r (r_ab rfl) (L_nil ?_))))))))
   refine W_ret ?_
   refine ret1 (v := .bool _) rfl rfl ?_
   refine ⟨?_, rfl⟩
   first
   | (apply bool_dec; unfold plainP; exact ⟨fun h => .inr (.inr h), fun h => by rcases h with h | h | h; exact absurd h (by assumption); exact absurd h (by assumption); exact h⟩)
   | exact bool_t (.inl (by assumption))
   | exact bool_t (.inr (.inl (by assumption)))
   | exact bool_t (.inr (.inr (by assumption)))
  ·
   refine L_g (r_ms rfl) ?_
   refine L_g (r_eqls rfl rfl) (L_r (r_pf rfl rfl) (L_r (r_mb rfl) ?_))
   refine L_case (d := 9) rfl (fun h9 => ?_) (fun h9 => ?_)
   ·
    refine L_ps (L_ps (L_r (r_pt rfl rfl) (L_r (r_ab rfl) (L_nil (W_ret ?_)))))
    refine ret1 (v := .bool _) rfl rfl ?_
    refine ⟨?_, rfl⟩
    first
    | (apply bool_dec; unfold plainP; exact ⟨fun h => .inr (.inr h), fun h => by rcases h with h | h | h; exact absurd h (by assumption); exact absurd h (by assumption); exact h⟩)
    | exact bool_t (.inl (by assumption))
    | exact bool_t (.inr (.inl (by assumption)))
    | exact bool_t (.inr (.inr (by assumption)))
   ·
    refine L_g (r_ms rfl) ?_
    refine L_g (r_eqls rfl rfl) (L_r (r_pf rfl rfl) (L_r (r_ab rfl) (L_nil (W_ret ?_))))
    refine ret1 (v := .bool _) rfl rfl ?_
    refine ⟨?_, rfl⟩
    first
    | (apply bool_dec; unfold plainP; exact ⟨fun h => .inr (.inr h), fun h => by rcases h with h | h | h; exact absurd h (by assumption); exact absurd h (by assumption); exact h⟩)
    | exact bool_t (.inl (by assumption))
    | exact bool_t (.inr (.inl (by assumption)))
    | exact bool_t (.inr (.inr (by assumption)))
theorem rightk_walk (s : ByteArray) (w0 : World) (hs : s.size ≤ 1000000000000000) : Does Tryz.prog 68 #[.string s] w0 (fun r w' => r = .bool (decide (rightK s)) ∧ Nw w0 w') := by
  refine fn_of (n := 20) (args := [.string s]) Tryz.func68 rfl rfl rfl (W_seq (W_region (L_r (r_ab rfl) (L_nil (W_seq (W_region (L_r (r_ms rfl) ?_)))))))
  refine L_call (.plain rfl) rfl rfl (r_call Tryz.func125 rfl rfl rfl (by rfl)) (base_walk s _ hs) ?_
  rintro v7 w1 ⟨rfl, c1⟩
  have hz1 := c1.size
  refine L_r (r_mv) (L_r (r_ext2_0 rfl) (L_r (r_ext2_1 rfl) (L_r (r_as rfl) (L_r (r_ai rfl) (L_nil (W_seq (W_region (L_r (r_mi rfl) ?_))))))))
  refine L_r (r_leq rfl rfl) (L_r (r_mb rfl) ?_)
  refine L_case (d := 12) rfl (fun h12 => ?_) (fun h12 => ?_)
  ·
   refine L_g (r_ms rfl) ?_
   refine L_call (.yes 2 true rfl rfl) rfl rfl (r_call Tryz.func126 rfl rfl rfl (by rfl)) (plain_walk (baseS s) _) ?_
   rintro v14 w2 ⟨rfl, rfl⟩
   refine L_g (r_mb rfl) ?_
   refine L_caseb (d := 15) rfl (fun h15 => ?_) (fun h15 => ?_)
   ·
    refine L_ps (L_ps ?_)
    refine L_g (r_pt rfl rfl) (L_r (r_pt rfl rfl) (L_r (r_ab rfl) (L_nil (W_ret ?_))))
    refine ret1 (v := .bool _) rfl rfl ?_
    refine ⟨?_, Ch.au⟩
    (try simp only [decide_eq_true_eq, decide_eq_false_iff_not] at *)
    first
    | exact bool_t ⟨by omega, .inl (by assumption)⟩
    | exact bool_f (fun h => by have := h.1; omega)
    | exact bool_dec ⟨fun h => ⟨by omega, .inr h⟩, fun h => h.2.resolve_left (by assumption)⟩
   ·
    refine L_g (r_ms rfl) ?_
    refine L_call (.yes 5 false rfl rfl) rfl rfl (r_call Tryz.func58 rfl rfl rfl (by rfl)) (class_walk (baseS s) _) ?_
    rintro v17 w3 ⟨rfl, c3⟩
    have hz3 := c3.size
    refine L_g (r_pf rfl rfl) (L_r (r_pt rfl rfl) (L_r (r_ab rfl) (L_nil (W_ret ?_))))
    refine ret1 (v := .bool _) rfl rfl ?_
    refine ⟨?_, Ch.au⟩
    (try simp only [decide_eq_true_eq, decide_eq_false_iff_not] at *)
    first
    | exact bool_t ⟨by omega, .inl (by assumption)⟩
    | exact bool_f (fun h => by have := h.1; omega)
    | exact bool_dec ⟨fun h => ⟨by omega, .inr h⟩, fun h => h.2.resolve_left (by assumption)⟩
  ·
   refine L_ps (L_ps (L_ps ?_))
   refine L_pu ?_
   refine L_pu (L_ps (L_r (r_pf rfl rfl) (L_r (r_ab rfl) (L_nil (W_ret ?_)))))
   refine ret1 (v := .bool _) rfl rfl ?_
   refine ⟨?_, Ch.au⟩
   (try simp only [decide_eq_true_eq, decide_eq_false_iff_not] at *)
   first
   | exact bool_t ⟨by omega, .inl (by assumption)⟩
   | exact bool_f (fun h => by have := h.1; omega)
   | exact bool_dec ⟨fun h => ⟨by omega, .inr h⟩, fun h => h.2.resolve_left (by assumption)⟩
def deepN (s : ByteArray) : Nat := if rightK s then baseN s else 0
theorem deep_walk (s : ByteArray) (w0 : World) (hs : s.size ≤ 1000000000000000) : Does Tryz.prog 179 #[.string s] w0 (fun r w' => r = .int .i64 (deepN s : Int) ∧ Nw w0 w') := by
  refine fn_of (n := 14) (args := [.string s]) Tryz.func179 rfl rfl rfl (W_seq (W_region (L_r (r_ai rfl) (L_nil (W_seq (W_region (L_r (r_ms rfl) ?_)))))))
  refine L_call (.plain rfl) rfl rfl (r_call Tryz.func125 rfl rfl rfl (by rfl)) (base_walk s _ hs) ?_
  rintro v7 w1 ⟨rfl, c1⟩
  have hz1 := c1.size
  refine L_r (r_mv) (L_r (r_ext2_0 rfl) (L_r (r_ext2_1 rfl) (L_r (r_as rfl) (L_r (r_ai rfl) (L_nil (W_seq (W_seq (W_region ?_))))))))
  refine L_r (r_ms rfl) ?_
  refine L_call (.plain rfl) rfl rfl (r_call Tryz.func68 rfl rfl rfl (by rfl)) (rightk_walk s _ hs) ?_
  rintro v11 w2 ⟨rfl, c2⟩
  have hz2 := c2.size
  refine L_r (r_not rfl) (L_nil ?_)
  refine W_bool rfl (fun h12 => ?_) (fun h12 => ?_)
  ·
   refine W_seq (W_region (L_r (r_ai rfl) (L_nil (W_ret ?_))))
   refine ret1 (v := .int _ _) rfl rfl ?_
   refine ⟨?_, Ch.au⟩
   unfold deepN
   first
   | (rw [if_neg (by simpa using h12)]; rfl)
   | (rw [if_pos (by simpa using h12)])
  ·
   refine W_skip (W_seq (W_region (L_r (r_mi rfl) (L_r (r_ai rfl) (L_nil (W_ret ?_))))))
   refine ret1 (v := .int _ _) rfl rfl ?_
   refine ⟨?_, Ch.au⟩
   unfold deepN
   first
   | (rw [if_neg (by simpa using h12)]; rfl)
   | (rw [if_pos (by simpa using h12)])
end Go.Proofs.YthpknpfhpkkheaaGreatDoor

namespace Go.Proofs.YthpknpfhpkkheaaGreatDoor
open Go Go.RowKit
set_option linter.unusedVariables false
set_option linter.unusedSimpArgs false
set_option maxRecDepth 100000
theorem dot_at {s : ByteArray} {i : Nat} (h : i < s.size) (hi : (bat s i).toNat = 46) (hn : ∀ j, j < i → (bat s j).toNat ≠ 46) : Lib.cut (bs s) [46] = ((bs s).take i, (bs s).drop (i + 1), true) := by
  have hl : i < (bs s).length := by rw [bs_length]; exact h
  have hb : ∀ j, j < (bs s).length → (bs s)[j]? = some (bat s j) := fun j hj => by
    unfold bat
    rw [List.getD_eq_getElem?_getD, List.getElem?_eq_getElem hj]; rfl
  have h46 : ∀ x : UInt8, x.toNat = 46 ↔ x = 46 := fun x => ⟨fun h => UInt8.toNat_inj.1 h, fun h => by rw [h]; rfl⟩
  have hI : Lib.index (bs s) [46] = i := by
    rw [Lib.index_one]
    have hge := Lib.indexByte_ge (bs s) 46
    rcases Int.lt_or_le (Lib.indexByte (bs s) 46) 0 with hlt | hle
    ·
     have hm : Lib.indexByte (bs s) 46 = -1 := by omega
     have := Lib.indexByte_none hm i
     rw [hb i hl, (h46 _).1 hi] at this
     exact absurd rfl this
    ·
     obtain ⟨o, ho⟩ : ∃ o : Nat, Lib.indexByte (bs s) 46 = o := ⟨(Lib.indexByte (bs s) 46).toNat, by omega⟩
     obtain ⟨h1, h2⟩ := Lib.indexByte_some ho
     have ho1 : o < (bs s).length := (List.getElem?_eq_some_iff.1 h1).1
     rw [hb o ho1] at h1
     have h1' : (bat s o).toNat = 46 := (h46 _).2 (by injection h1)
     rcases Nat.lt_trichotomy o i with hh | hh | hh
     · exact absurd h1' (hn o hh)
     · rw [ho, hh]
     ·
      have := h2 i hh
      rw [hb i hl, (h46 _).1 hi] at this
      exact absurd rfl this
  unfold Lib.cut
  rw [hI, if_pos (by omega)]; rfl
theorem dot_no {s : ByteArray} (hn : ∀ j, j < s.size → (bat s j).toNat ≠ 46) : Lib.cut (bs s) [46] = (bs s, [], false) := by
  have hI : ¬ (0 : Int) ≤ Lib.index (bs s) [46] := by
    rw [Lib.index_one]
    intro hle
    obtain ⟨o, ho⟩ : ∃ o : Nat, Lib.indexByte (bs s) 46 = o := ⟨(Lib.indexByte (bs s) 46).toNat, by omega⟩
    obtain ⟨h1, h2⟩ := Lib.indexByte_some ho
    have ho1 : o < (bs s).length := (List.getElem?_eq_some_iff.1 h1).1
    have hb : (bs s)[o]? = some (bat s o) := by
      unfold bat
      rw [List.getD_eq_getElem?_getD, List.getElem?_eq_getElem ho1]; rfl
    rw [hb] at h1
    have h1' : bat s o = 46 := by injection h1
    exact hn o (by rw [← bs_length]; exact ho1) (by rw [h1']; rfl)
  unfold Lib.cut
  rw [if_neg hI]
def memP (s : ByteArray) : Prop := nameP s ∧ smallC (bat s 0).toNat
instance (s : ByteArray) : Decidable (memP s) := inferInstanceAs (Decidable (_ ∧ _))
theorem memP_iff (s : ByteArray) : memP s ↔ (nameP s ∧ ¬ classP s) := by
  unfold memP classP
  constructor
  ·
   rintro ⟨h, h2⟩
   refine ⟨h, fun h3 => ?_⟩
   have := h3.2
   unfold smallC greatC at *; omega
  ·
   rintro ⟨h, h2⟩
   obtain ⟨h1, _, h3, h4⟩ := id h
   have h5 := h4 0 h1
   refine ⟨h, ?_⟩
   have h6 : ¬ greatC (bat s 0).toNat := fun hg => h2 ⟨h, hg⟩
   unfold nameC at h5
   rcases h5 with h5 | h5 | h5
   · exact absurd h5 h6
   · exact h5
   · exact absurd h5 h3
def partsO (s : ByteArray) : Option (ByteArray × ByteArray) :=
  if (Lib.cut (bs s) [46]).2.2 = true ∧ classP (sb (Lib.cut (bs s) [46]).1) ∧ memP (sb (Lib.cut (bs s) [46]).2.1) then some (sb (Lib.cut (bs s) [46]).1, sb (Lib.cut (bs s) [46]).2.1) else none
def partsV : Option (ByteArray × ByteArray) → Value
  | some (a, b) => .tuple #[.string a, .string b, .int .i64 0]
  | none => .tuple #[.string { data := #[] }, .string { data := #[] }, .int .i64 30]
theorem parts_walk (s : ByteArray) (w0 : World) (hs : s.size ≤ 1000000000000000) : Does Tryz.prog 180 #[.string s] w0 (fun r w' => r = partsV (partsO s) ∧ Nw w0 w') := by
  obtain ⟨a, ha⟩ : ∃ a, a = sb (Lib.cut (bs s) [46]).1 := ⟨_, rfl⟩
  obtain ⟨d, hd⟩ : ∃ d, d = sb (Lib.cut (bs s) [46]).2.1 := ⟨_, rfl⟩
  obtain ⟨f, hf⟩ : ∃ f, f = (Lib.cut (bs s) [46]).2.2 := ⟨_, rfl⟩
  have hp : partsO s = if f = true ∧ classP a ∧ memP d then some (a, d) else none := by rw [ha, hd, hf]; rfl
  have hcut : ∀ w, Does Tryz.prog 188 #[.string s, .string { data := #[46] }] w (fun r w' => r = .tuple #[.string a, .string d, .bool f] ∧ Nw w w') := fun w => by
    rw [ha, hd, hf]
    exact cut1_walk s 46 w hs
  rw [hp]
  clear ha hd hf hp
  refine fn_of (n := 35) (args := [.string s]) Tryz.func180 rfl rfl rfl (W_seq (W_region (L_r (r_as rfl) (L_r (r_as rfl) (L_r (r_ai rfl) (L_nil (W_seq (W_region ?_))))))))
  refine L_r (r_ms rfl) ?_
  refine L_call (.plain rfl) rfl rfl (r_call Tryz.func188 rfl rfl rfl (by rfl)) (hcut _) ?_
  rintro v10 w1 ⟨rfl, c1⟩
  have hz1 := c1.size
  refine L_r (r_mv) (L_r (r_ext3_0 rfl) (L_r (r_ext3_1 rfl) (L_r (r_ext3_2 rfl) (L_r (r_as rfl) (L_r (r_as rfl) (L_r (r_ab rfl) (L_nil (W_seq ?_))))))))
  refine W_seq (W_region (L_r (r_mb rfl) (L_r (r_not rfl) (L_r (r_mb rfl) ?_))))
  refine L_caseb (d := 16) rfl (fun h16 => ?_) (fun h16 => ?_)
  ·
   refine L_ps (L_ps (L_ps (L_r (r_pt rfl rfl) (L_r (r_mb rfl) (L_ps (L_ps (L_ps (L_r (r_pt rfl rfl) ?_))))))))
   refine L_r (r_mb rfl) (L_ps (L_ps (L_ps (L_ps (L_ps (L_r (r_pt rfl rfl) (L_nil ?_)))))))
   refine W_true rfl (W_seq (W_region (L_r (r_as rfl) (L_r (r_as rfl) (L_r (r_ai rfl) (L_nil (W_ret ?_)))))))
   refine ret3 (u := .string _) (v := .string _) (x := .int _ _) rfl rfl rfl rfl ?_
   refine ⟨?_, Ch.au⟩
   (try simp only [decide_eq_true_eq, decide_eq_false_iff_not, Bool.not_eq_true', Bool.not_eq_false'] at *)
   first
   | (rw [if_pos ⟨by assumption, by assumption, hnm, by assumption⟩]; rfl)
   | (rw [if_neg (fun h => by first | (have h1 := h.1; simp_all; done) | exact absurd h.2.1 (by assumption) | exact absurd h.2.2.1 (by assumption) | exact absurd h.2.2.2 (by assumption))]; rfl)
  ·
   refine L_g (r_ms rfl) ?_
   refine L_call (.yes 2 false rfl rfl) rfl rfl (r_call Tryz.func58 rfl rfl rfl (by rfl)) (class_walk a _) ?_
   rintro v18 w2 ⟨rfl, c2⟩
   have hz2 := c2.size
   refine L_g (r_not rfl) (L_r (r_pf rfl rfl) (L_r (r_mb rfl) ?_))
   refine L_caseb (d := 21) rfl (fun h21 => ?_) (fun h21 => ?_)
   ·
    refine L_ps (L_ps (L_ps (L_r (r_pt rfl rfl) (L_r (r_mb rfl) (L_ps (L_ps (L_ps (L_ps ?_))))))))
    refine L_ps (L_r (r_pt rfl rfl) (L_nil ?_))
    refine W_true rfl (W_seq (W_region (L_r (r_as rfl) (L_r (r_as rfl) (L_r (r_ai rfl) (L_nil (W_ret ?_)))))))
    refine ret3 (u := .string _) (v := .string _) (x := .int _ _) rfl rfl rfl rfl ?_
    refine ⟨?_, Ch.au⟩
    (try simp only [decide_eq_true_eq, decide_eq_false_iff_not, Bool.not_eq_true', Bool.not_eq_false'] at *)
    first
    | (rw [if_pos ⟨by assumption, by assumption, hnm, by assumption⟩]; rfl)
    | (rw [if_neg (fun h => by first | (have h1 := h.1; simp_all; done) | exact absurd h.2.1 (by assumption) | exact absurd h.2.2.1 (by assumption) | exact absurd h.2.2.2 (by assumption))]; rfl)
   ·
    refine L_g (r_ms rfl) ?_
    refine L_call (.yes 7 false rfl rfl) rfl rfl (r_call Tryz.func118 rfl rfl rfl (by rfl)) (name_walk d _) ?_
    rintro v23 w3 ⟨rfl, c3⟩
    have hz3 := c3.size
    refine L_g (r_not rfl) (L_r (r_pf rfl rfl) (L_r (r_mb rfl) ?_))
    refine L_caseb (d := 26) rfl (fun h26 => ?_) (fun h26 => ?_)
    ·
     refine L_ps (L_ps (L_ps (L_ps (L_ps (L_r (r_pt rfl rfl) (L_nil ?_))))))
     refine W_true rfl (W_seq (W_region (L_r (r_as rfl) (L_r (r_as rfl) (L_r (r_ai rfl) (L_nil (W_ret ?_)))))))
     refine ret3 (u := .string _) (v := .string _) (x := .int _ _) rfl rfl rfl rfl ?_
     refine ⟨?_, Ch.au⟩
     (try simp only [decide_eq_true_eq, decide_eq_false_iff_not, Bool.not_eq_true', Bool.not_eq_false'] at *)
     first
     | (rw [if_pos ⟨by assumption, by assumption, hnm, by assumption⟩]; rfl)
     | (rw [if_neg (fun h => by first | (have h1 := h.1; simp_all; done) | exact absurd h.2.1 (by assumption) | exact absurd h.2.2.1 (by assumption) | exact absurd h.2.2.2 (by assumption))]; rfl)
    ·
     have hnm : nameP d := by simpa using h26
     have hpos := hnm.1
     have hbt := (bat d 0).toNat_lt
     refine L_g (r_ms rfl) ?_
     refine L_g (r_indexs Tryz.underlying9 rfl rfl (by omega) (by omega) (by conv => lhs; (try simp only [Nat.mul_one, Nat.zero_add, Int.toNat_natCast, Int.toNat_zero, Int.reduceToNat, Nat.reduceMul, Nat.reduceAdd]))) ?_
     refine L_g (r_conv Tryz.underlying5 Tryz.underlying21 rfl (by first | exact wr_i32 (by omega) | rfl)) ?_
     refine L_call (.yes 12 false rfl rfl) rfl rfl (r_call Tryz.func158 rfl rfl rfl (by rfl)) (small_walk _ _) ?_
     rintro v30 w4 ⟨rfl, rfl⟩
     refine L_g (r_not rfl) (L_r (r_pf rfl rfl) (L_nil ?_))
     refine W_bool rfl (fun h32 => ?_) (fun h32 => ?_)
     ·
      refine W_seq (W_region (L_r (r_as rfl) (L_r (r_as rfl) (L_r (r_ai rfl) (L_nil (W_ret ?_))))))
      refine ret3 (u := .string _) (v := .string _) (x := .int _ _) rfl rfl rfl rfl ?_
      refine ⟨?_, Ch.au⟩
      (try simp only [decide_eq_true_eq, decide_eq_false_iff_not, Bool.not_eq_true', Bool.not_eq_false'] at *)
      first
      | (rw [if_pos ⟨by assumption, by assumption, hnm, by assumption⟩]; rfl)
      | (rw [if_neg (fun h => by first | (have h1 := h.1; simp_all; done) | exact absurd h.2.1 (by assumption) | exact absurd h.2.2.1 (by assumption) | exact absurd h.2.2.2 (by assumption))]; rfl)
     ·
      refine W_skip (W_seq (W_region (L_r (r_ms rfl) (L_r (r_ms rfl) (L_r (r_as rfl) (L_r (r_as rfl) (L_r (r_ai rfl) (L_nil ?_))))))))
      refine W_ret ?_
      refine ret3 (u := .string _) (v := .string _) (x := .int _ _) rfl rfl rfl rfl ?_
      refine ⟨?_, Ch.au⟩
      (try simp only [decide_eq_true_eq, decide_eq_false_iff_not, Bool.not_eq_true', Bool.not_eq_false'] at *)
      first
      | (rw [if_pos ⟨by assumption, by assumption, hnm, by assumption⟩]; rfl)
      | (rw [if_neg (fun h => by first | (have h1 := h.1; simp_all; done) | exact absurd h.2.1 (by assumption) | exact absurd h.2.2.1 (by assumption) | exact absurd h.2.2.2 (by assumption))]; rfl)
end Go.Proofs.YthpknpfhpkkheaaGreatDoor

namespace Go.Proofs.YthpknpfhpkkheaaGreatDoor
open Go Go.RowKit
set_option linter.unusedVariables false
set_option linter.unusedSimpArgs false
set_option maxRecDepth 100000
theorem class_iff {s : ByteArray} (h : nameP s) : ((bat s 0).toNat : Int) ≤ 90 ↔ classP s := by
  obtain ⟨h1, h2, h3, h4⟩ := id h
  have h5 := h4 0 h1
  unfold nameC greatC smallC digitC at h5
  unfold digitC at h3
  unfold classP greatC
  exact ⟨fun h6 => ⟨h, by omega⟩, fun h6 => by omega⟩
theorem rclass_walk (s : ByteArray) (w0 : World) (hs : s.size ≤ 1000000000000000) : Does Tryz.prog 71 #[.string s] w0 (fun r w' => r = .bool (decide (classP s)) ∧ Nw w0 w') := by
  refine fn_of (n := 10) (args := [.string s]) Tryz.func71 rfl rfl rfl (W_seq (W_region (L_r (r_ab rfl) (L_nil (W_seq (W_region (L_r (r_ms rfl) ?_)))))))
  refine L_call (.plain rfl) rfl rfl (r_call Tryz.func133 rfl rfl rfl (by rfl)) (rname_walk s _ hs) ?_
  rintro v4 w1 ⟨rfl, c1⟩
  have hz1 := c1.size
  refine L_r (r_mb rfl) ?_
  refine L_caseb (d := 5) rfl (fun h5 => ?_) (fun h5 => ?_)
  ·
   have hnp := of_decide_eq_true h5
   have hsp := hnp.1
   refine L_g (r_ms rfl) ?_
   refine L_g (r_indexs Tryz.underlying9 rfl rfl (by omega) (by omega) (by conv => lhs; (try simp only [Nat.mul_one, Nat.zero_add, Int.toNat_natCast, Int.toNat_zero, Int.reduceToNat, Nat.reduceMul, Nat.reduceAdd]))) ?_
   refine L_g (r_leq rfl rfl) (L_r (r_pt rfl rfl) (L_r (r_ab rfl) (L_nil (W_ret ?_))))
   refine ret1 (v := .bool _) rfl rfl ?_
   refine ⟨?_, Ch.au⟩
   first
   | exact congrArg Value.bool (decide_eq_decide.2 (class_iff hnp))
   | exact congrArg Value.bool (decide_eq_false (fun hp => hnp hp.1)).symm
  ·
   have hnp := of_decide_eq_false h5
   refine L_ps (L_ps (L_ps (L_r (r_pf rfl rfl) (L_r (r_ab rfl) (L_nil (W_ret ?_))))))
   refine ret1 (v := .bool _) rfl rfl ?_
   refine ⟨?_, Ch.au⟩
   first
   | exact congrArg Value.bool (decide_eq_decide.2 (class_iff hnp))
   | exact congrArg Value.bool (decide_eq_false (fun hp => hnp hp.1)).symm
theorem rmem_use (s : ByteArray) (w0 : World) (hs : s.size ≤ 1000000000000000) : Does Tryz.prog 72 #[.string s] w0 (fun r w' => r = .bool (decide (memP s)) ∧ Nw w0 w') :=
  (rmember_walk s w0 hs).mono (by rintro r w' ⟨rfl, c⟩; exact ⟨congrArg Value.bool (decide_eq_decide.2 (memP_iff s).symm), c⟩)
theorem rplain_walk (s : ByteArray) (w0 : World) : Does Tryz.prog 135 #[.string s] w0 (fun r w' => r = .bool (decide (plainP s)) ∧ w' = w0) := by
  refine fn_of (n := 8) (args := [.string s]) Tryz.func135 rfl rfl rfl (W_seq (W_region (L_r (r_ab rfl) (L_nil (W_seq (W_seq (W_region (L_r (r_ms rfl) ?_))))))))
  refine L_nil (W_block (W_seq (W_seq (W_region (L_r (r_eqls rfl rfl) (L_r (r_ab rfl) (L_nil ?_)))))))
  refine W_if rfl (fun h4 => ?_) (fun h4 => ?_)
  ·
   refine W_skip ?_
   refine W_if rfl (fun h4 => ?_) (fun h4 => ?_)
   ·
    refine W_seq (W_region (L_r (r_ab rfl) (L_nil (W_ret ?_))))
    refine ret1 (v := .bool _) rfl rfl ?_
    refine ⟨?_, rfl⟩
    first
    | contradiction
    | exact bool_t (.inl (by assumption))
    | exact bool_t (.inr (.inl (by assumption)))
    | exact bool_t (.inr (.inr (by assumption)))
    | exact bool_f (fun h => by rcases h with h | h | h <;> exact absurd h (by assumption))
   ·
    refine W_skip (W_seq (W_region (L_r (r_ab rfl) (L_nil (W_ret ?_)))))
    refine ret1 (v := .bool _) rfl rfl ?_
    refine ⟨?_, rfl⟩
    first
    | contradiction
    | exact bool_t (.inl (by assumption))
    | exact bool_t (.inr (.inl (by assumption)))
    | exact bool_t (.inr (.inr (by assumption)))
    | exact bool_f (fun h => by rcases h with h | h | h <;> exact absurd h (by assumption))
  ·
   refine W_seq (W_region (L_r (r_eqls rfl rfl) (L_r (r_ab rfl) (L_nil ?_))))
   refine W_if rfl (fun h4 => ?_) (fun h4 => ?_)
   ·
    refine W_skip ?_
    refine W_if rfl (fun h4 => ?_) (fun h4 => ?_)
    ·
     refine W_seq (W_region (L_r (r_ab rfl) (L_nil (W_ret ?_))))
     refine ret1 (v := .bool _) rfl rfl ?_
     refine ⟨?_, rfl⟩
     first
     | contradiction
     | exact bool_t (.inl (by assumption))
     | exact bool_t (.inr (.inl (by assumption)))
     | exact bool_t (.inr (.inr (by assumption)))
     | exact bool_f (fun h => by rcases h with h | h | h <;> exact absurd h (by assumption))
    ·
     refine W_skip (W_seq (W_region (L_r (r_ab rfl) (L_nil (W_ret ?_)))))
     refine ret1 (v := .bool _) rfl rfl ?_
     refine ⟨?_, rfl⟩
     first
     | contradiction
     | exact bool_t (.inl (by assumption))
     | exact bool_t (.inr (.inl (by assumption)))
     | exact bool_t (.inr (.inr (by assumption)))
     | exact bool_f (fun h => by rcases h with h | h | h <;> exact absurd h (by assumption))
   ·
    refine W_region (L_r (r_eqls rfl rfl) (L_r (r_ab rfl) (L_nil ?_)))
    refine W_if rfl (fun h4 => ?_) (fun h4 => ?_)
    ·
     refine W_seq (W_region (L_r (r_ab rfl) (L_nil (W_ret ?_))))
     refine ret1 (v := .bool _) rfl rfl ?_
     refine ⟨?_, rfl⟩
     first
     | contradiction
     | exact bool_t (.inl (by assumption))
     | exact bool_t (.inr (.inl (by assumption)))
     | exact bool_t (.inr (.inr (by assumption)))
     | exact bool_f (fun h => by rcases h with h | h | h <;> exact absurd h (by assumption))
    ·
     refine W_skip (W_seq (W_region (L_r (r_ab rfl) (L_nil (W_ret ?_)))))
     refine ret1 (v := .bool _) rfl rfl ?_
     refine ⟨?_, rfl⟩
     first
     | contradiction
     | exact bool_t (.inl (by assumption))
     | exact bool_t (.inr (.inl (by assumption)))
     | exact bool_t (.inr (.inr (by assumption)))
     | exact bool_f (fun h => by rcases h with h | h | h <;> exact absurd h (by assumption))
theorem ends_iff (s : ByteArray) (h : 2 ≤ s.size) : s.extract (s.size - 2) s.size = arr2 ↔ endsA (bs s) = true := by
  have h1 := Lib.hasSuffix_raw s arr2
  have h2 : arr2.size = 2 := rfl
  have h3 : endsA (bs s) = Lib.hasSuffix s.data.toList arr2.data.toList := rfl
  rw [h3, ← h1, h2, decide_eq_true h, Bool.true_and, beq_iff_eq]
  constructor
  · intro e; rw [e]
  ·
   intro e
   rw [Lib.toList_data, Lib.toList_data] at e
   rw [← bs_inj]; exact e
theorem take_ext (s : ByteArray) (k : Nat) : s.extract 0 k = sb ((bs s).take k) := by
  rw [extract_bs]; simp
theorem rdeep_walk (s : ByteArray) (w0 : World) (hs : s.size ≤ 1000000000000000) : Does Tryz.prog 134 #[.string s] w0 (fun r w' => r = .int .i64 (baseN s : Int) ∧ Nw w0 w') := by
  refine fn_of (n := 23) (args := [.string s]) Tryz.func134 rfl rfl rfl (W_seq (W_region (L_r (r_ai rfl) (L_nil (W_seq (W_region (L_r (r_ai rfl) (L_nil ?_))))))))
  refine W_seq (W_block ?_)
  refine W_loopF [] (fun mz_ f W => ∃ (cur : ByteArray) (n : Nat), f 0 = .string cur ∧ f 3 = .int .i64 n ∧ (baseN s = baseN cur + n ∧ cur.size + 2 * n = s.size ∧ Nw w0 W) ∧ mz_ = cur.size) ?_ ?_
  ·
   refine ⟨_, s, 0, rfl, rfl, ?_, rfl⟩
   exact ⟨rfl, by omega, Ch.au⟩
  rintro m0 g0 w1 ⟨cur, n, hf0, hf3, hR0, rfl⟩
  refine W_as 0 hf0 rfl ?_
  refine W_as 3 hf3 rfl ?_
  clear hf0 hf3
  obtain ⟨hb, hsz, hnw⟩ := hR0
  have hz := hnw.size
  refine W_seq (W_seq (W_region (L_r (r_ms rfl) ?_)))
  refine L_r (r_lens Tryz.underlying9 rfl) (L_r (r_geq rfl rfl) (L_r (r_mb rfl) ?_))
  refine L_case (d := 7) rfl (fun h7 => ?_) (fun h7 => ?_)
  ·
   refine L_g (r_ms rfl) ?_
   refine L_g (r_ms rfl) ?_
   refine L_g (r_lens Tryz.underlying9 rfl) ?_
   refine L_g (r_sub rfl rfl (by first | exact wr_i64 (by omega) | rfl)) ?_
   rw [show (cur.size : Int) - 2 = ((cur.size - 2 : Nat) : Int) by omega]
   refine L_g (r_slices_l Tryz.underlying9 rfl rfl (by omega) (by omega)) ?_
   refine L_g (r_eqls rfl rfl) (L_r (r_pt rfl rfl) (L_nil ?_))
   refine W_if rfl (fun h14 => ?_) (fun h14 => ?_)
   ·
    have he : endsA (bs cur) = true := (ends_iff cur (by omega)).1 (by simpa using h14)
    have hex := take_ext cur (cur.size - 2)
    refine W_skip (W_block (W_seq (W_region (L_r (r_mi rfl) ?_))))
    refine L_r (r_add rfl rfl (by first | exact wr_i64 (by omega) | rfl)) (L_r (r_ai rfl) (L_nil (W_region (L_r (r_ms rfl) (L_r (r_ms rfl) ?_)))))
    refine L_r (r_lens Tryz.underlying9 rfl) ?_
    refine L_r (r_sub rfl rfl (by first | exact wr_i64 (by omega) | rfl)) ?_
    rw [show (cur.size : Int) - 2 = ((cur.size - 2 : Nat) : Int) by omega]
    refine L_r (r_slices_h Tryz.underlying9 rfl rfl (by omega) (by omega)) (L_r (r_as rfl) (L_nil ?_))
    refine ⟨trivial, _, ?_, cur.extract 0 (cur.size - 2), n + 1, rfl, rfl, ?_, rfl⟩
    · rw [hex, sb_size, List.length_take, bs_length]; omega
    refine ⟨?_, by rw [hex, sb_size, List.length_take, bs_length]; omega, Ch.au⟩
    have e : baseN cur = baseN (cur.extract 0 (cur.size - 2)) + 1 := by
      unfold baseN
      rw [hex, bs_sb, baseF_yes he]
      rw [bs_length]
    omega
   ·
    refine W_exit ?_
    repeat (first | refine blk_hit ?_ | refine blk_miss rfl ?_)
    refine W_seq (W_region (L_r (r_mi rfl) (L_r (r_ai rfl) (L_nil (W_ret ?_)))))
    refine ret1 (v := .int _ _) rfl rfl ?_
    refine ⟨?_, Ch.au⟩
    have he : endsA (bs cur) = false := by
      cases hh : endsA (bs cur) with
      | false => rfl
      | true =>
        exfalso
        have h2 := endsA_le hh
        rw [bs_length] at h2
        first
        | omega
        | exact h14 ((ends_iff cur h2).2 hh)
    have e0 : baseN cur = 0 := by unfold baseN; rw [baseF_no he]
    rw [hb, e0, Nat.zero_add]
  ·
   refine L_ps (L_ps (L_ps (L_ps (L_ps (L_ps (L_r (r_pf rfl rfl) (L_nil ?_)))))))
   refine W_false rfl ?_
   refine W_exit ?_
   repeat (first | refine blk_hit ?_ | refine blk_miss rfl ?_)
   refine W_seq (W_region (L_r (r_mi rfl) (L_r (r_ai rfl) (L_nil (W_ret ?_)))))
   refine ret1 (v := .int _ _) rfl rfl ?_
   refine ⟨?_, Ch.au⟩
   have he : endsA (bs cur) = false := by
     cases hh : endsA (bs cur) with
     | false => rfl
     | true =>
       exfalso
       have h2 := endsA_le hh
       rw [bs_length] at h2
       first
       | omega
       | exact h14 ((ends_iff cur h2).2 hh)
   have e0 : baseN cur = 0 := by unfold baseN; rw [baseF_no he]
   rw [hb, e0, Nat.zero_add]
theorem base_ext (s : ByteArray) : s.extract 0 (s.size - 2 * baseN s) = baseS s := by
  rw [take_ext]
  unfold baseS baseN
  rw [baseF_take (bs s), bs_length]
theorem rright_walk (s : ByteArray) (w0 : World) (hs : s.size ≤ 1000000000000000) : Does Tryz.prog 73 #[.string s] w0 (fun r w' => r = .bool (decide (rightK s)) ∧ Nw w0 w') := by
  have hle := baseN_le s
  refine fn_of (n := 24) (args := [.string s]) Tryz.func73 rfl rfl rfl (W_seq (W_region (L_r (r_ab rfl) (L_nil (W_seq (W_region (L_r (r_ms rfl) ?_)))))))
  refine L_call (.plain rfl) rfl rfl (r_call Tryz.func134 rfl rfl rfl (by rfl)) (rdeep_walk s _ hs) ?_
  rintro v6 w1 ⟨rfl, c1⟩
  have hz1 := c1.size
  refine L_r (r_ai rfl) (L_nil (W_seq (W_region (L_r (r_ms rfl) (L_r (r_ms rfl) ?_)))))
  refine L_r (r_lens Tryz.underlying9 rfl) (L_r (r_mi rfl) ?_)
  refine L_r (r_mul rfl rfl (by first | exact wr_i64 (by omega) | rfl)) ?_
  refine L_r (r_sub rfl rfl (by first | exact wr_i64 (by omega) | rfl)) ?_
  rw [show (s.size : Int) - 2 * (baseN s : Int) = ((s.size - 2 * baseN s : Nat) : Int) by omega]
  refine L_r (r_slices_h Tryz.underlying9 rfl rfl (by omega) (by omega)) ?_
  rw [show s.extract 0 (((s.size - 2 * baseN s : Nat) : Int).toNat) = baseS s from base_ext s]
  refine L_r (r_as rfl) (L_nil (W_seq (W_region (L_r (r_mi rfl) (L_r (r_leq rfl rfl) (L_r (r_mb rfl) ?_))))))
  refine L_case (d := 16) rfl (fun h16 => ?_) (fun h16 => ?_)
  ·
   refine L_g (r_ms rfl) ?_
   refine L_call (.yes 2 true rfl rfl) rfl rfl (r_call Tryz.func135 rfl rfl rfl (by rfl)) (rplain_walk (baseS s) _) ?_
   rintro v18 w2 ⟨rfl, rfl⟩
   refine L_g (r_mb rfl) ?_
   refine L_caseb (d := 19) rfl (fun h19 => ?_) (fun h19 => ?_)
   ·
    refine L_ps (L_ps ?_)
    refine L_g (r_pt rfl rfl) (L_r (r_pt rfl rfl) (L_r (r_ab rfl) (L_nil (W_ret ?_))))
    refine ret1 (v := .bool _) rfl rfl ?_
    refine ⟨?_, Ch.au⟩
    (try simp only [decide_eq_true_eq, decide_eq_false_iff_not] at *)
    first
    | exact bool_t ⟨by omega, .inl (by assumption)⟩
    | exact bool_f (fun h => by have := h.1; omega)
    | exact bool_dec ⟨fun h => ⟨by omega, .inr h⟩, fun h => h.2.resolve_left (by assumption)⟩
   ·
    refine L_g (r_ms rfl) ?_
    refine L_call (.yes 5 false rfl rfl) rfl rfl (r_call Tryz.func71 rfl rfl rfl (by rfl)) (rclass_walk (baseS s) _ (by rw [← base_ext s, take_ext, sb_size, List.length_take, bs_length]; omega)) ?_
    rintro v21 w3 ⟨rfl, c3⟩
    have hz3 := c3.size
    refine L_g (r_pf rfl rfl) (L_r (r_pt rfl rfl) (L_r (r_ab rfl) (L_nil (W_ret ?_))))
    refine ret1 (v := .bool _) rfl rfl ?_
    refine ⟨?_, Ch.au⟩
    (try simp only [decide_eq_true_eq, decide_eq_false_iff_not] at *)
    first
    | exact bool_t ⟨by omega, .inl (by assumption)⟩
    | exact bool_f (fun h => by have := h.1; omega)
    | exact bool_dec ⟨fun h => ⟨by omega, .inr h⟩, fun h => h.2.resolve_left (by assumption)⟩
  ·
   refine L_ps (L_ps (L_ps ?_))
   refine L_pu ?_
   refine L_pu (L_ps (L_r (r_pf rfl rfl) (L_r (r_ab rfl) (L_nil (W_ret ?_)))))
   refine ret1 (v := .bool _) rfl rfl ?_
   refine ⟨?_, Ch.au⟩
   (try simp only [decide_eq_true_eq, decide_eq_false_iff_not] at *)
   first
   | exact bool_t ⟨by omega, .inl (by assumption)⟩
   | exact bool_f (fun h => by have := h.1; omega)
   | exact bool_dec ⟨fun h => ⟨by omega, .inr h⟩, fun h => h.2.resolve_left (by assumption)⟩
theorem rparts_walk (s : ByteArray) (w0 : World) (hs : s.size ≤ 1000000000000000) : Does Tryz.prog 183 #[.string s] w0 (fun r w' => (∃ x y, r = .tuple #[.string x, .string y, .bool (partsO s).isSome] ∧ ∀ p, partsO s = some p → p = (x, y)) ∧ Nw w0 w') := by
  refine fn_of (n := 34) (args := [.string s]) Tryz.func183 rfl rfl rfl (W_seq (W_region (L_r (r_as rfl) (L_r (r_as rfl) (L_r (r_ab rfl) (L_nil (W_seq (W_seq ?_))))))))
  refine W_region (L_r (r_ai rfl) (L_nil (W_block ?_)))
  refine W_loopF [0] (fun mz_ f W => ∃ (i : Nat), f 5 = .int .i64 i ∧ (i ≤ s.size ∧ (∀ j, j < i → (bat s j).toNat ≠ 46) ∧ Nw w0 W) ∧ mz_ = s.size - i) ?_ ?_
  ·
   refine ⟨_, 0, rfl, ?_, rfl⟩
   exact ⟨by omega, fun j hj => absurd hj (by omega), Ch.au⟩
  rintro m0 g0 w1 ⟨i, hf5, hR0, rfl⟩
  refine W_as 5 hf5 rfl ?_
  clear hf5
  obtain ⟨hi, hn, hnw⟩ := hR0
  have hz := hnw.size
  refine W_seq (W_seq (W_region (L_r (r_mi rfl) (L_r (r_ms rfl) ?_))))
  refine L_r (r_lens Tryz.underlying9 rfl) (L_r (r_lss rfl rfl) (L_nil ?_))
  refine W_if rfl (fun h9 => ?_) (fun h9 => ?_)
  ·
   refine W_skip (W_seq (W_block (W_seq (W_region (L_r (r_ms rfl) (L_r (r_mi rfl) ?_))))))
   refine L_r (r_indexs Tryz.underlying9 rfl rfl (by omega) (by omega) (by conv => lhs; (try simp only [Nat.mul_one, Nat.zero_add, Int.toNat_natCast, Int.toNat_zero, Int.reduceToNat, Nat.reduceMul, Nat.reduceAdd]))) (L_r (r_eql rfl rfl) (L_nil ?_))
   refine W_if rfl (fun h15 => ?_) (fun h15 => ?_)
   ·
    have hd := dot_at (s := s) (i := i) (by omega) (by omega) hn
    have hx1 := take_ext s i
    have hx2 : s.extract (i + 1) s.size = sb ((bs s).drop (i + 1)) := by rw [extract_bs]; congr 1; rw [List.take_of_length_le]; rw [List.length_drop, bs_length]; omega
    have hp : partsO s = if classP (s.extract 0 i) ∧ memP (s.extract (i + 1) s.size) then some (s.extract 0 i, s.extract (i + 1) s.size) else none := by
      unfold partsO; rw [hd, hx1, hx2]; simp
    have hs1 : (s.extract 0 i).size ≤ 1000000000000000 := by rw [hx1, sb_size, List.length_take, bs_length]; omega
    have hs2 : (s.extract (i + 1) s.size).size ≤ 1000000000000000 := by rw [hx2, sb_size, List.length_drop, bs_length]; omega
    clear hx1 hx2 hd
    obtain ⟨a, ha⟩ : ∃ a, a = s.extract 0 i := ⟨_, rfl⟩
    obtain ⟨d, hdd⟩ : ∃ d, d = s.extract (i + 1) s.size := ⟨_, rfl⟩
    rw [← ha, ← hdd] at hp
    rw [← ha] at hs1
    rw [← hdd] at hs2
    refine W_seq ?_
    refine W_draw (fun _ => True) 21 (m := 21) (by kernel_rfl) rfl (fun w2 c2 hs2 => ?_)
    refine held (by trivial) (fun hS => ?_)
    refine D_t 0 rfl (fun W hW => r_ms rfl) ?_
    refine D_t 1 rfl (fun W hW => r_mi rfl) ?_
    refine D_t 2 rfl (fun W hW => r_slices_h Tryz.underlying9 rfl rfl (by omega) (by omega)) ?_
    rw [show s.extract 0 ((i : Int).toNat) = a from ha.symm]
    refine D_t 3 rfl (fun W hW => r_ms rfl) ?_
    refine D_t 4 rfl (fun W hW => r_mi rfl) ?_
    refine D_t 5 rfl (fun W hW => r_add rfl rfl (by first | exact wr_i64 (by omega) | rfl)) ?_
    refine D_t 6 rfl (fun W hW => r_slices_l Tryz.underlying9 rfl rfl (by omega) (by omega)) ?_
    rw [show s.extract (((i : Int) + 1).toNat) s.size = d from hdd.symm]
    refine D_t 7 rfl (fun W hW => r_ms rfl) ?_
    refine D_t 8 rfl (fun W hW => r_mi rfl) ?_
    refine D_t 9 rfl (fun W hW => r_slices_h Tryz.underlying9 rfl rfl (by omega) (by omega)) ?_
    rw [show s.extract 0 ((i : Int).toNat) = a from ha.symm]
    refine D_ev 10 (by kernel_rfl) rfl ?_
    refine L_call (.plain rfl) rfl rfl (r_call Tryz.func71 rfl rfl rfl (by rfl)) (rclass_walk a _ (by omega)) ?_
    rintro v26 w3 ⟨rfl, c3⟩
    have hz3 := c3.size
    refine L_nil ?_
    refine heldK (by trivial) (fun hS => ?_)
    refine D_t 11 rfl (fun W hW => r_mb rfl) ?_
    refine D_caseb (d := 27) rfl (fun h27 => ?_) (fun h27 => ?_)
    ·
     refine D_g 12 rfl (fun W hW => r_ms rfl) ?_
     refine D_g 13 rfl (fun W hW => r_mi rfl) ?_
     refine D_g 14 rfl (fun W hW => r_add rfl rfl (by first | exact wr_i64 (by omega) | rfl)) ?_
     refine D_g 15 rfl (fun W hW => r_slices_l Tryz.underlying9 rfl rfl (by omega) (by omega)) ?_
     rw [show s.extract (((i : Int) + 1).toNat) s.size = d from hdd.symm]
     refine D_ev 16 (by kernel_rfl) rfl ?_
     refine L_call (.yes 11 true rfl rfl) rfl rfl (r_call Tryz.func72 rfl rfl rfl (by rfl)) (rmem_use d _ (by omega)) ?_
     rintro v32 w4 ⟨rfl, c4⟩
     have hz4 := c4.size
     refine L_nil ?_
     refine heldK (by trivial) (fun hS => ?_)
     refine D_t 17 rfl (fun W hW => r_pt rfl rfl) ?_
     refine D_t 18 rfl (fun W hW => r_as rfl) ?_
     refine D_t 19 rfl (fun W hW => r_as rfl) ?_
     refine D_t 20 rfl (fun W hW => r_ab rfl) ?_
     refine D_done (by kernel_rfl) (W_ret ?_)
     refine ret3 (u := .string _) (v := .string _) (x := .bool _) rfl rfl rfl rfl ?_
     refine ⟨?_, Ch.au⟩
     first
     | (have hdn := dot_no (s := s) (fun j hj => hn j (by omega))
        have hp : partsO s = none := by unfold partsO; rw [hdn]; exact if_neg (fun h => by have := h.1; simp at this)
        exact ⟨_, _, by rw [hp]; rfl, fun p h => by rw [hp] at h; cases h⟩)
     | (refine ⟨a, d, ?_, fun p h => ?_⟩
        · rw [hp]
          by_cases hc : classP a <;> by_cases hm : memP d <;> simp_all
        · rw [hp] at h
          split at h
          · injection h with h; exact h.symm
          · cases h)
    ·
     refine D_ps 12 rfl ?_
     refine D_ps 13 rfl ?_
     refine D_ps 14 rfl ?_
     refine D_ps 15 rfl ?_
     refine D_ps 16 rfl ?_
     refine D_t 17 rfl (fun W hW => r_pf rfl rfl) ?_
     refine D_t 18 rfl (fun W hW => r_as rfl) ?_
     refine D_t 19 rfl (fun W hW => r_as rfl) ?_
     refine D_t 20 rfl (fun W hW => r_ab rfl) ?_
     refine D_done (by kernel_rfl) (W_ret ?_)
     refine ret3 (u := .string _) (v := .string _) (x := .bool _) rfl rfl rfl rfl ?_
     refine ⟨?_, Ch.au⟩
     first
     | (have hdn := dot_no (s := s) (fun j hj => hn j (by omega))
        have hp : partsO s = none := by unfold partsO; rw [hdn]; exact if_neg (fun h => by have := h.1; simp at this)
        exact ⟨_, _, by rw [hp]; rfl, fun p h => by rw [hp] at h; cases h⟩)
     | (refine ⟨a, d, ?_, fun p h => ?_⟩
        · rw [hp]
          by_cases hc : classP a <;> by_cases hm : memP d <;> simp_all
        · rw [hp] at h
          split at h
          · injection h with h; exact h.symm
          · cases h)
   ·
    refine W_skip (W_region (L_r (r_mi rfl) ?_))
    refine L_r (r_add rfl rfl (by first | exact wr_i64 (by omega) | rfl)) (L_r (r_ai rfl) (L_nil ?_))
    refine ⟨⟨fx2, trivial⟩, _, ?_, i + 1, rfl, ?_, rfl⟩
    · omega
    refine ⟨by omega, fun j hj => ?_, Ch.au⟩
    rcases Nat.lt_or_ge j i with h | h
    · exact hn j h
    ·
     have e : j = i := by omega
     subst e; omega
  ·
   refine W_exit ?_
   repeat (first | refine blk_hit ?_ | refine blk_miss rfl ?_)
   refine W_seq (W_region (L_r (r_as rfl) (L_r (r_as rfl) (L_r (r_ab rfl) (L_nil (W_ret ?_))))))
   refine ret3 (u := .string _) (v := .string _) (x := .bool _) rfl rfl rfl rfl ?_
   refine ⟨?_, Ch.au⟩
   first
   | (have hdn := dot_no (s := s) (fun j hj => hn j (by omega))
      have hp : partsO s = none := by unfold partsO; rw [hdn]; exact if_neg (fun h => by have := h.1; simp at this)
      exact ⟨_, _, by rw [hp]; rfl, fun p h => by rw [hp] at h; cases h⟩)
   | (refine ⟨a, d, ?_, fun p h => ?_⟩
      · rw [hp]
        by_cases hc : classP a <;> by_cases hm : memP d <;> simp_all
      · rw [hp] at h
        split at h
        · injection h with h; exact h.symm
        · cases h)
end Go.Proofs.YthpknpfhpkkheaaGreatDoor

namespace Go.Proofs.YthpknpfhpkkheaaGreatDoor
open Go Go.RowKit Go.MapKept
set_option linter.unusedVariables false
set_option linter.unusedSimpArgs false
/-! ### a struct stored into a row of one's own -/
def sets : List Value → Nat → List Value → List Value
  | xs, _, [] => xs
  | xs, i, u :: us => sets (xs.set i u) (i + 1) us
section
variable {P : Program} {k : Nat} {ops : Array Oper} {rest : List Oper} {N : Cn} {w : World} {f : Fr} {ty : TypeId} {pos : String} {af : Array Edge} {g : Option (Nat × Bool)} {v : Value} {n sz e base : Nat} {xs : List Value}
end
end Go.Proofs.YthpknpfhpkkheaaGreatDoor

namespace Go.Proofs.YthpknpfhpkkheaaGreatDoor
open Go Go.RowKit Go.Lib
set_option linter.unusedVariables false
set_option linter.unusedSimpArgs false
section
variable {P : Program} {w : World} {f : Fr} {ty : TypeId} {pos : String} {af : Array Edge} {g : Option (Nat × Bool)} {v : Value} {n : Nat} {xs : List Value}
theorem strCells_b8 (s : ByteArray) : strCells s = (bs s).map b8 := rfl
theorem ap_ows {t u e base : Nat} (ht : P.underlying t = some (.slice e)) (hu : P.underlying u = some .string) (hinfo : (P.info? e).map (fun i => (i.zero, i.size, i.bytes)) = some (some (.int .u8 0), 1, 1))
    (hown : Ow w base e 1 v n xs) (s : ByteArray) (h63 : n + s.size ≤ maxLen) (hby : n + s.size ≤ 140737488355328) (hb : base ≤ w.heap.size) :
    ∃ v' w', (Builtin.append_ #[t, u] ty #[v, .string s]).run P w = .ok v' w' ∧ Ow w' base e 1 v' (n + s.size) (xs ++ (bs s).map b8) ∧ Ch (fun j => v.ownBlock = some j) w w' ∧ (∀ j, v'.ownBlock = some j → v.ownBlock = some j ∨ w.heap.size ≤ j) := by
  obtain ⟨i, hi, hz0, hz1, hz2⟩ := info_parts hinfo
  obtain ⟨hx0, ⟨rfl, rfl⟩ | ⟨gb, cap, cur, rfl, k1, k2, k3, k4, k5, k6⟩⟩ := hown
  ·
   have : xs = [] := List.eq_nil_of_length_eq_zero (by simpa using hx0)
   subst this
   obtain ⟨v', w', h1, h2, h3, _⟩ := run_append_own_string (P := P) w w.heap.size t u ty e i ht hu hi hz0 hz1 hz2 (.slice none 0 0) 0 [] (Own.nil w _ e 1) s h63 hby (Nat.le_refl _)
   exact ⟨v', w', h1, by have := (Ow.of h2).mono hb; rw [strCells_b8] at this; exact this, (Ch.of_grown h3).mono (fun i _ hi => by simp [Value.ownBlock] at hi), fun j hj => .inr (own_base h2 hj)⟩
  ·
   have hsl : Sl w (.slice (some ⟨gb, 0, none⟩) n cap) 1 n xs := Ow.sl (base := gb) (e := e) ⟨hx0, .inr ⟨gb, cap, cur, rfl, Nat.le_refl _, k2, k3, k4, k5, k6⟩⟩
   have hlen : (xs ++ (bs s).map b8).length = (n + s.size) * 1 := by rw [List.length_append, hx0, List.length_map, bs_length]; omega
   by_cases hroom : n + s.size ≤ cap
   ·
    have hr := run_append_room_string (P := P) w t u ty e i ht hu hi hz1 gb n cap cur k2 s hroom (by omega)
    refine ⟨_, _, hr, ⟨hlen, .inr ⟨gb, cap, _, rfl, k1, setRow_heap w gb cur _ e _ k2, hroom, k4, ?_, ?_⟩⟩, (Ch.setRow w gb _).mono fun j _ hj => by simp [Value.ownBlock, show j = gb from hj], fun j hj => .inl hj⟩
    ·
     simp only [List.size_toArray, List.length_append, List.length_take, List.length_drop, Array.length_toList, strCells_length]
     omega
    ·
     have ht' : cur.toList.take n = xs := by simpa using k6
     rw [ht', ← hlen]
     exact List.take_left
   ·
    have hnm : cap < n + s.size := by omega
    have hfit := growslice_fits (bytes := 1) hnm (by omega)
    unfold maxLen at h63
    have hrun := run_append_grow_string (P := P) w t u ty e i (.int .u8 0) ht hu hi hz0 ⟨gb, 0, none⟩ n cap xs (by rw [hz1]; exact hx0) (fun j y hj => by
        have := hsl.cell hj
        rw [add_lit]
        simpa [at_] using this) s hnm (by omega) (by rw [hz2]; exact hfit)
    refine ⟨_, _, hrun, ?_, ((Ch.drew w).trans (Ch.alloc w.drew _)).nw, fun j hj => .inr ?_⟩
    ·
     have hcap : n + s.size ≤ grownCap w (n + s.size) cap e := grownCap_ge w _ _ _
     have hcap2 : grownCap w (n + s.size) cap e ≤ maxLen := grownCap_le_maxLen w _ _ _ (by unfold maxLen; exact h63)
     refine ⟨hlen, .inr ⟨w.heap.size, _, _, rfl, hb, heap_alloc_new w.drew _, hcap, hcap2, ?_, ?_⟩⟩
     ·
      have hzz : (Builtin.zeroCells (Value.int .u8 0).cells (grownCap w (n + s.size) cap e - (n + s.size))).size = (grownCap w (n + s.size) cap e - (n + s.size)) * 1 := by simp [Builtin.zeroCells, Value.cells]
      simp only [Array.size_append, List.size_toArray, hx0, hzz, strCells_length]
      omega
     ·
      rw [← hlen]
      simp only [Array.toList_append, List.append_assoc]
      rw [← List.append_assoc, List.take_left']
      all_goals rfl
    ·
     injection hj with hj
     exact Nat.le_of_eq hj
variable {d k : Nat} {ops : Array Oper} {rest : List Oper} {N : Cn}
theorem L_apows {s x : Operand} {t u e base : Nat} {str : ByteArray} (ht : P.underlying t = some (.slice e)) (hut : P.underlying u = some .string) (hinfo : (P.info? e).map (fun i => (i.zero, i.size, i.bytes)) = some (some (.int .u8 0), 1, 1))
    (hw : Wants ops f ⟨some d, .call { callee := .builtin .append, args := #[s, x], argTypes := #[t, u] }, ty, pos, af, g⟩) (hn : Nat.blt d k = true) (hs : ev f s = v) (hx : ev f x = .string str)
    (hown : Ow w base e 1 v n xs) (h63 : n + str.size ≤ maxLen) (hby : n + str.size ≤ 140737488355328) (hb : base ≤ w.heap.size)
    (h : ∀ v' w1, Ow w1 base e 1 v' (n + str.size) (xs ++ (bs str).map b8) → Ch (fun j => v.ownBlock = some j) w w1 → (∀ j, v'.ownBlock = some j → v.ownBlock = some j ∨ w.heap.size ≤ j) → Wl P k ops rest N (upd f d v') w1) :
    Wl P k ops (⟨some d, .call { callee := .builtin .append, args := #[s, x], argTypes := #[t, u] }, ty, pos, af, g⟩ :: rest) N f w := by
  obtain ⟨v', w', h2, h3, h4, h5⟩ := ap_ows (ty := ty) ht hut hinfo hown str h63 hby hb
  exact L_run hw rfl hn (r_append hs hx h2) (h v' w' h3 h4 h5)
end
theorem r_min {P : Program} {w : World} {f : Fr} {dst : Option Tmp} {ty : TypeId} {pos : String} {af : Array Edge} {g : Option (Nat × Bool)} {ats : Array TypeId} {x y : Operand} {k k' : IntKind} {a b : Int} (hx : ev f x = .int k a) (hy : ev f y = .int k' b) :
    (execOp (ev f) ⟨dst, .call { callee := .builtin .min, args := #[x, y], argTypes := ats }, ty, pos, af, g⟩).run P w = .ok (.value (.int k (if b < a then b else a))) w := by
  simp [execOp, resolve, invoke, builtin, hx, hy, run_min_int2]
/-- Parts of any size laid at their places. -/
def putN (pl : List (Nat × Nat)) : List (Nat × Value) → List Value → Option (List Value)
  | [], cs => some cs
  | (i, v) :: r, cs => match pl[i]? with
    | some (o, m) => if v.cells.size = m then (if o + m ≤ cs.length then putN pl r (cs.take o ++ v.cells.toList ++ cs.drop (o + m)) else none) else none
    | none => none
end Go.Proofs.YthpknpfhpkkheaaGreatDoor

namespace Go.Proofs.YthpknpfhpkkheaaGreatDoor
open Go Go.RowKit Go.Lib
set_option linter.unusedVariables false
set_option linter.unusedSimpArgs false
section
variable {P : Program} {w : World} {f : Fr} {dst : Option Tmp} {ty : TypeId} {pos : String} {af : Array Edge} {g : Option (Nat × Bool)}
/-- A place of a package-level variable is read. -/
theorem r_loadG {x : Operand} {t : TypeId} {b i : Nat} {v : Value} (ht : flat P t = true) (hx : ev f x = .pointer (some ⟨b, i, none⟩)) (hv : w.cell? ⟨b, i, none⟩ = some v) : (execOp (ev f) ⟨dst, .load t x, ty, pos, af, g⟩).run P w = .ok (.value v) w := r_load ht hx hv
theorem r_loadrowG {x : Operand} {t : TypeId} {b m : Nat} {us : List Value} {dd : TypeDesc} (hu : P.underlying t = some dd) (hd : (match dd with | .struct _ | .array _ _ => true | _ => false) = true) (hi : (P.info? t).map (·.size) = some m) (hm : us.length = m)
    (hx : ev f x = .pointer (some ⟨b, 0, none⟩)) (hv : ∀ (j : Nat) (u : Value), us[j]? = some u → w.cell? ⟨b, j, none⟩ = some u) : (execOp (ev f) ⟨dst, .load t x, ty, pos, af, g⟩).run P w = .ok (.value (.agg us.toArray)) w := by
  have hl : (loadCells ⟨b, 0, none⟩ m).run P w = .ok us.toArray w := by
    rw [← hm]
    exact run_loadCells_list w ⟨b, 0, none⟩ us (fun j u hj => by rw [add_lit, Nat.zero_add]; exact hv j u hj)
  have hagg : (isAgg t).run P w = .ok true w := by
    unfold isAgg
    rw [Sem.run_bind, run_underlying hu w]
    cases dd <;> simp_all
  obtain ⟨inf, hi1, hi2⟩ := Option.map_eq_some_iff.1 hi
  simp [execOp, hx, Instr.loadAt, Instr.sureAddr, loadVar, Sem.run_bind, hagg, sizeOf, typeInfo, hi1, hi2, hl]
theorem r_sliceG {x : Operand} {t e : TypeId} {n sz b : Nat} (hu : P.underlying t = some (.array n e)) (hz : (P.info? e).map (·.size) = some sz) (hx : ev f x = .pointer (some ⟨b, 0, none⟩)) :
    (execOp (ev f) ⟨dst, .slice t x none none none, ty, pos, af, g⟩).run P w = .ok (.value (.slice (some ⟨b, 0, none⟩) n n)) w := by
  obtain ⟨inf, hi1, hi2⟩ := Option.map_eq_some_iff.1 hz
  have he : P.elem t = e := by simp [Program.elem, hu]
  have hl : P.arrayLen t = n := by simp [Program.arrayLen, hu]
  simp [execOp, hx, run_sliceAt_array_all (ht := (by rw [he, hl]; exact hu : P.underlying t = some (.array (P.arrayLen t) (P.elem t)))), hl, he, sizeOf, typeInfo, hi1, hi2, slicedAt, sliced, add_lit]
theorem r_indexA {x y : Operand} {t e : TypeId} {n sz : Nat} {k : IntKind} {i : Int} {cs row : Array Value} {dd : TypeDesc} (hu : P.underlying t = some (.array n e)) (hz : (P.info? e).map (·.size) = some sz) (hue : P.underlying e = some dd) (hd : (match dd with | .struct _ | .array _ _ => true | _ => false) = true)
    (hx : ev f x = .agg cs) (hy : ev f y = .int k i) (h0 : 0 ≤ i) (h1 : i < n) (hr : cs.extract (i.toNat * sz) (i.toNat * sz + sz) = row) : (execOp (ev f) ⟨dst, .index t x y, ty, pos, af, g⟩).run P w = .ok (.value (.agg row)) w := by
  subst hr
  have hagg : (isAgg e).run P w = .ok true w := by
    unfold isAgg
    rw [Sem.run_bind, run_underlying hue w]
    cases dd <;> simp_all
  obtain ⟨inf, hi1, hi2⟩ := Option.map_eq_some_iff.1 hz
  simp [execOp, hx, hy, Instr.index, asIntOf, run_underlying hu, h0, h1, part, hagg, sizeOf, typeInfo, hi1, hi2]
end
end Go.Proofs.YthpknpfhpkkheaaGreatDoor

namespace Go.Proofs.YthpknpfhpkkheaaGreatDoor
open Go Go.RowKit Go.Deep
set_option linter.unusedVariables false
set_option linter.unusedSimpArgs false
theorem flat_get {X : Type} (f : X → List Value) (sz : Nat) (hf : ∀ x, (f x).length = sz) : ∀ (z : List X) (k : Nat) (u : Value), (z.flatMap f)[k]? = some u → ∃ (i r : Nat) (hi : i < z.length), k = i * sz + r ∧ r < sz ∧ (f z[i])[r]? = some u
  | [], k, u, h => by simp at h
  | x :: z, k, u, h => by
    rw [List.flatMap_cons] at h
    by_cases hk : k < sz
    ·
     rw [List.getElem?_append_left (by rw [hf]; exact hk)] at h
     exact ⟨0, k, by simp, by omega, hk, h⟩
    ·
     rw [List.getElem?_append_right (by rw [hf]; omega), hf] at h
     obtain ⟨i, r, hi, h1, h2, h3⟩ := flat_get f sz hf z (k - sz) u h
     refine ⟨i + 1, r, by simpa using hi, ?_, h2, by simpa using h3⟩
     rw [Nat.add_mul]; omega
theorem flat_length {X : Type} (f : X → List Value) (sz : Nat) (hf : ∀ x, (f x).length = sz) : ∀ z : List X, (z.flatMap f).length = z.length * sz
  | [] => by simp
  | x :: z => by rw [List.flatMap_cons, List.length_append, hf, flat_length f sz hf z, List.length_cons, Nat.add_mul]; omega
/-! ### rows within rows: what is read; a bound on sizes that parts inherit -/
theorem weights_all {H : Type} {P : Program} {e : TypeId} : ∀ {l : List (DataW H)} {d : DataW H}, d ∈ l → ∀ n ∈ d.weights P e, n ∈ DataW.weightsAll P e l
  | x :: l, d, hd, n, hn => by
    simp only [DataW.weightsAll, List.mem_append]
    rcases List.mem_cons.1 hd with rfl | hd
    · exact .inl hn
    · exact .inr (weights_all hd n hn)
/-- What parts inherit; texts and rows are no longer than R. -/
structure Inh {H : Type} (P : Program) (G : TypeId → DataW H → Prop) (R : Nat) : Prop where
  st : ∀ {t : TypeId} {fs : Array Field} {parts : List (DataW H)}, P.underlying t = some (.struct fs) → G t (.agg parts) → ∀ {i : Nat} {f : Field} {d : DataW H}, fs[i]? = some f → parts[i]? = some d → G f.type d
  sl : ∀ {t e : TypeId} {l s : List (DataW H)}, P.underlying t = some (.slice e) → G t (.slice l s) → (∀ d ∈ l, G e d) ∧ (1 ≤ P.bytesOf e → l.length ≤ R)
  str : ∀ {t : TypeId} {b : List UInt8}, G t (.lit (.string b)) → b.length ≤ R
theorem inh_weights {H : Type} (P : Program) (R : Nat) : Inh (H := H) P (fun t d => ∀ k ∈ d.weights P t, k ≤ R) R where
  st := by
    intro t fs parts hu h i f d hf hd k hk
    refine h k ?_
    have e : DataW.weights P t (.agg parts) = DataW.weightsEach P (fs.toList.map (·.type)) parts := by
      unfold DataW.weights
      rw [hu]
    rw [e]
    exact DataW.weights_mem_each (j := i) (t := f.type) (d := d) (by rw [List.getElem?_map, Array.getElem?_toList, hf]; rfl) hd k hk
  sl := by
    intro t e l s hu h
    have ew : DataW.weights P t (.slice l s) = (l.length + s.length) * P.bytesOf e :: (DataW.weightsAll P e l ++ DataW.weightsAll P e s) := by
      unfold DataW.weights
      rw [hu]
    rw [ew] at h
    refine ⟨fun d hd k hk => h k (List.mem_cons_of_mem _ (List.mem_append_left _ (weights_all hd k hk))), fun hb => ?_⟩
    have h1 := h _ List.mem_cons_self
    exact Nat.le_trans (Nat.le_trans (by omega : l.length ≤ l.length + s.length) (Nat.le_mul_of_pos_right _ hb)) h1
  str := by
    intro t b h
    exact h b.length (by simp [DataW.weights])
/-- A field of a struct that was read. -/
theorem st_sz {H : Type} {enc : TypeId × Value → H} {P : Program} {W : World} {n t : Nat} {cs : List Value} {fs : Array Field} {d : DataW H} {p : List MemPlace} {G : TypeId → DataW H → Prop} {R : Nat} (hG : Inh P G R) (hu : P.underlying t = some (.struct fs))
    (h : DataW.trod enc P W 0 (fun _ => true) true n t cs = some (d, p)) (hw : G t d) :
    cs.length = P.cellsOf t ∧ ∀ (i : Nat) (f : Field), fs[i]? = some f → ∃ m d' p', DataW.trod enc P W 0 (fun _ => true) true m f.type ((cs.drop f.offset).take (P.cellsOf f.type)) = some (d', p') ∧ G f.type d' := by
  obtain ⟨xs, m, _, hx, hl, hxl, hf⟩ := DataW.trod_struct hu h
  refine ⟨hl, fun i f hi => ?_⟩
  have hi2 : i < xs.length := by rw [hxl]; exact (Array.getElem?_eq_some_iff.1 hi).1
  have h2 := hf i f hi
  rw [List.getElem?_eq_getElem hi2] at h2
  have hd : d = .agg (xs.map (·.1)) := congrArg Prod.fst hx
  rw [hd] at hw
  exact ⟨m, xs[i].1, xs[i].2, h2, hG.st hu hw hi (by rw [List.getElem?_map, List.getElem?_eq_getElem hi2]; rfl)⟩
/-- A row that was read, within whatever. -/
theorem sl_trod {H : Type} {enc : TypeId × Value → H} {P : Program} {W : World} {n : Nat} {t e : TypeId} {cs : List Value} {d : DataW H} {p : List MemPlace} {X : Type} [Inhabited X] (f : X → List Value) (sz : Nat) (Q : X → Prop) {G : TypeId → DataW H → Prop} {R : Nat} (hG : Inh P G R) (hf : ∀ x, (f x).length = sz) (h0 : 0 < sz)
    (ht : P.underlying t = some (.slice e)) (hc : P.cellsOf e = sz) (hb1 : 1 ≤ P.bytesOf e) (hel : ∀ n cs d p, DataW.trod enc P W 0 (fun _ => true) true n e cs = some (d, p) → G e d → ∃ x : X, cs = f x ∧ Q x)
    (h : DataW.trod enc P W 0 (fun _ => true) true n t cs = some (d, p)) (hw : G t d) :
    ∃ (v : Value) (z : List X), cs = [v] ∧ Sl W v sz z.length (z.flatMap f) ∧ (∀ x ∈ z, Q x) ∧ z.length ≤ R := by
  rcases open_slice ht h with ⟨rfl, _⟩ | ⟨a, len, cap, m, k, D, Pl, rfl, _, hlc, _, hm, hd, hx⟩
  · exact ⟨_, [], rfl, Sl.nil _ _, by simp, by simp⟩
  rw [hc] at hx
  rw [if_pos rfl] at hm
  subst hm
  have hdd : d = .slice ((List.range len).map D) ((List.range (m - len)).map fun j => D (len + j)) := congrArg Prod.fst hd
  rw [hdd] at hw
  obtain ⟨hwe, hwl⟩ := hG.sl ht hw
  have hR : len ≤ R := by have h2 := hwl hb1; simpa using h2
  have hch : ∀ i, ∃ x : X, i < len → Q x ∧ ∀ r, r < sz → W.cell? ((a.add (i * sz)).add r) = (f x)[r]? := by
    intro i
    by_cases hi : i < len
    ·
     obtain ⟨cs', h2, h3⟩ := hx i (by omega)
     obtain ⟨x, rfl, hq⟩ := hel _ _ _ _ h3 (hwe _ (List.mem_map.2 ⟨i, List.mem_range.2 hi, rfl⟩))
     obtain ⟨_, _, h4⟩ := World.cells?_some h2
     exact ⟨x, fun _ => ⟨hq, h4⟩⟩
    · exact ⟨default, fun hi' => absurd hi' hi⟩
  have hzl : ((List.range len).map fun i => Classical.choose (hch i)).length = len := by simp
  refine ⟨_, (List.range len).map fun i => Classical.choose (hch i), rfl, ?_, ?_, by rw [hzl]; exact hR⟩
  ·
   rw [hzl]
   by_cases hm0 : m = 0
   ·
    subst hm0
    obtain rfl : len = 0 := by omega
    exact ⟨by simp, .inl ⟨_, rfl, rfl⟩⟩
   ·
    obtain ⟨cs', h2, h3⟩ := hx 0 (by omega)
    obtain ⟨_, hl4, h4⟩ := World.cells?_some h2
    have h5 := h4 0 h0
    rw [Nat.zero_mul] at h5
    have e0 : ∀ a : Addr, a.add 0 = a := fun a => by simp [Addr.add]
    rw [e0, e0] at h5
    obtain ⟨b, o, sp⟩ := a
    obtain ⟨u, hu⟩ : ∃ u, W.cell? ⟨b, o, sp⟩ = some u := by
      rw [h5]
      exact ⟨_, List.getElem?_eq_getElem (by omega)⟩
    have hb : sp = none ∧ ∃ c row fr, W.heap[b]? = some (.cells c row fr) := by
      unfold World.cell? at hu
      split at hu
      ·
       rename_i c row fr hh
       split at hu
       · cases hu
       ·
        rename_i hs
        exact ⟨by simpa using hs, c, row, fr, hh⟩
      · cases hu
    obtain ⟨rfl, c, row, fr, hb⟩ := hb
    refine ⟨by rw [flat_length f sz hf, hzl], .inr ⟨b, o, m, c, row, rfl, hlc, ⟨fr, hb⟩, fun k u hk => ?_⟩⟩
    obtain ⟨i, r, hi, rfl, hr, hu⟩ := flat_get f sz hf _ k u hk
    rw [hzl] at hi
    have h6 := (Classical.choose_spec (hch i) hi).2 r hr
    simp only [List.getElem_map, List.getElem_range] at hu
    rw [hu, add_lit, add_lit, Rk.cell (cs := c) (t := row) ⟨fr, hb⟩] at h6
    rw [← Nat.add_assoc]
    exact h6
  ·
   intro x hx
   obtain ⟨i, hi, rfl⟩ := List.mem_map.1 hx
   exact (Classical.choose_spec (hch i) (List.mem_range.1 hi)).1
end Go.Proofs.YthpknpfhpkkheaaGreatDoor

namespace Go.Proofs.YthpknpfhpkkheaaGreatDoor
open Go Go.RowKit
set_option linter.unusedVariables false
set_option maxRecDepth 100000
set_option linter.unusedSimpArgs false
def zigI (n : Int) : Int := if 0 ≤ n then 2 * n else -(2 * n) - 1
def zagI (v : Int) : Int := if v % 2 = 0 then v / 2 else -(v / 2) - 1
theorem zig_eq (n : Int) (h : -9223372036854775808 ≤ n ∧ n ≤ 9223372036854775807) : bits .xor .u64 (IntKind.u64.wrap (IntKind.i64.wrap (n * 2))) (IntKind.u64.wrap (n / 9223372036854775808)) = zigI n := by
  have e1 : IntKind.u64.wrap (IntKind.i64.wrap (n * 2)) = (((2 * n) % 18446744073709551616).toNat : Nat) := by
    rw [IntKind.wrap_u64, IntKind.wrap_i64]; omega
  unfold zigI
  by_cases h0 : 0 ≤ n
  ·
   have e2 : IntKind.u64.wrap (n / 9223372036854775808) = ((0 : Nat) : Int) := by rw [IntKind.wrap_u64]; omega
   rw [e1, e2, bits_xor_u64_nat _ _ (by omega) (by decide), if_pos h0, Nat.xor_zero]
   omega
  ·
   have e2 : IntKind.u64.wrap (n / 9223372036854775808) = ((2 ^ 64 - 1 : Nat) : Int) := by rw [IntKind.wrap_u64]; omega
   rw [e1, e2, bits_xor_u64_nat _ _ (by omega) (by decide), Nat.xor_comm, Lib.xor_ones64 _ (by omega), if_neg h0]
   omega
theorem xor_swap (a b : Int) : bits .xor .i64 a b = bits .xor .i64 b a := by
  show IntKind.i64.wrap ((BitVec.ofInt 64 a ^^^ BitVec.ofInt 64 b).toNat : Int) = IntKind.i64.wrap ((BitVec.ofInt 64 b ^^^ BitVec.ofInt 64 a).toNat : Int)
  rw [BitVec.xor_comm]
theorem xor_zero_i64 (a : Int) (h : 0 ≤ a ∧ a < 9223372036854775808) : bits .xor .i64 a 0 = a := by
  show IntKind.i64.wrap ((BitVec.ofInt 64 a ^^^ BitVec.ofInt 64 0).toNat : Int) = a
  obtain ⟨n, rfl⟩ : ∃ n : Nat, a = n := ⟨a.toNat, by omega⟩
  have h2 : (BitVec.ofInt 64 (n : Int)).toNat = n := by
    rw [BitVec.ofInt_natCast, BitVec.toNat_ofNat]; exact Nat.mod_eq_of_lt (by omega)
  rw [BitVec.toNat_xor, h2, show (BitVec.ofInt 64 0).toNat = 0 by decide, Nat.xor_zero, IntKind.wrap_i64]
  omega
theorem zag_eq (v : Int) (h : 0 ≤ v ∧ v ≤ 18446744073709551615) : bits .xor .i64 (v / 2) (IntKind.i64.wrap (0 - IntKind.i64.wrap (bits .and .u64 v 1))) = zagI v := by
  rw [Lib.u64_and1 v h.1 (by omega)]
  unfold zagI
  by_cases h0 : v % 2 = 0
  · rw [h0, if_pos rfl, show IntKind.i64.wrap (0 - IntKind.i64.wrap 0) = 0 by decide, xor_zero_i64 _ (by omega)]
  ·
   have h1 : v % 2 = 1 := by omega
   rw [if_neg h0, h1, show IntKind.i64.wrap (0 - IntKind.i64.wrap 1) = -1 by decide, xor_swap]
   have := Lib.i64_not (v / 2).toNat (by omega)
   rw [show (((v / 2).toNat : Nat) : Int) = v / 2 by omega] at this
   rw [this]
theorem zig_walk (n : Int) (w0 : World) (h : -9223372036854775808 ≤ n ∧ n ≤ 9223372036854775807) : Does Tryz.prog 169 #[.int .i64 n] w0 (fun r w' => r = .int .u64 (zigI n) ∧ w' = w0) := by
  refine fn_of (n := 10) (args := [.int .i64 n]) Tryz.func169 rfl rfl rfl (W_seq (W_region (L_r (r_ai rfl) (L_nil (W_seq (W_region (L_r (r_mi rfl) ?_)))))))
  refine L_r (r_shlc (q := 2) rfl rfl (by omega) (by decide) (by first | exact wr_i64 (by omega) | rfl)) ?_
  refine L_r (r_conv Tryz.underlying2 Tryz.underlying80 rfl (by first | exact wr_u64 (by omega) | rfl)) (L_r (r_mi rfl) ?_)
  refine L_r (r_shrc (q := 9223372036854775808) rfl rfl (by omega) (by decide)) ?_
  refine L_r (r_conv Tryz.underlying2 Tryz.underlying80 rfl (by first | exact wr_u64 (by omega) | rfl)) (L_r (r_xor rfl rfl) (L_r (r_ai rfl) (L_nil (W_ret ?_))))
  refine ret1 (v := .int _ _) rfl rfl ?_
  exact ⟨by rw [← zig_eq n h], rfl⟩
theorem zag_walk (v : Int) (w0 : World) (h : 0 ≤ v ∧ v ≤ 18446744073709551615) : Does Tryz.prog 172 #[.int .u64 v] w0 (fun r w' => r = .int .i64 (zagI v) ∧ w' = w0) := by
  refine fn_of (n := 11) (args := [.int .u64 v]) Tryz.func172 rfl rfl rfl (W_seq (W_region (L_r (r_ai rfl) (L_nil (W_seq (W_region (L_r (r_mi rfl) ?_)))))))
  refine L_r (r_shrc (q := 2) rfl rfl (by omega) (by decide)) ?_
  refine L_r (r_conv Tryz.underlying80 Tryz.underlying2 rfl (by first | exact wr_i64 (by omega) | rfl)) (L_r (r_mi rfl) (L_r (r_and rfl rfl) ?_))
  refine L_r (r_conv Tryz.underlying80 Tryz.underlying2 rfl (by first | exact wr_i64 (by omega) | rfl)) ?_
  refine L_r (r_neg rfl (by first | exact wr_i64 (by omega) | rfl)) (L_r (r_xor rfl rfl) (L_r (r_ai rfl) (L_nil (W_ret ?_))))
  refine ret1 (v := .int _ _) rfl rfl ?_
  exact ⟨by rw [← zag_eq v h], rfl⟩
theorem rzig_walk (n : Int) (w0 : World) (h : -9223372036854775808 ≤ n ∧ n ≤ 9223372036854775807) : Does Tryz.prog 149 #[.int .i64 n] w0 (fun r w' => r = .int .u64 (zigI n) ∧ w' = w0) := by
  refine fn_of (n := 14) (args := [.int .i64 n]) Tryz.func149 rfl rfl rfl (W_seq (W_region (L_r (r_ai rfl) (L_nil (W_seq (W_seq (W_region (L_r (r_mi rfl) ?_))))))))
  refine L_r (r_geq rfl rfl) (L_nil ?_)
  refine W_if rfl (fun h4 => ?_) (fun h4 => ?_)
  ·
   refine W_seq (W_region (L_r (r_mi rfl) ?_))
   refine L_r (r_conv Tryz.underlying2 Tryz.underlying80 rfl (by first | exact wr_u64 (by omega) | rfl)) ?_
   refine L_r (r_mul rfl rfl (by first | exact wr_u64 (by omega) | rfl)) (L_r (r_ai rfl) (L_nil (W_ret ?_)))
   refine ret1 (v := .int _ _) rfl rfl ?_
   refine ⟨?_, rfl⟩
   unfold zigI
   first
     | (rw [if_pos (by assumption)])
     | (rw [if_neg (by assumption)]; congr 1; omega)
  ·
   refine W_skip (W_seq (W_region (L_r (r_mi rfl) ?_)))
   refine L_r (r_add rfl rfl (by first | exact wr_i64 (by omega) | rfl)) ?_
   refine L_r (r_neg rfl (by first | exact wr_i64 (by omega) | rfl)) ?_
   refine L_r (r_conv Tryz.underlying2 Tryz.underlying80 rfl (by first | exact wr_u64 (by omega) | rfl)) ?_
   refine L_r (r_mul rfl rfl (by first | exact wr_u64 (by omega) | rfl)) ?_
   refine L_r (r_add rfl rfl (by first | exact wr_u64 (by omega) | rfl)) (L_r (r_ai rfl) (L_nil (W_ret ?_)))
   refine ret1 (v := .int _ _) rfl rfl ?_
   refine ⟨?_, rfl⟩
   unfold zigI
   first
     | (rw [if_pos (by assumption)])
     | (rw [if_neg (by assumption)]; congr 1; omega)
/-- A number as few bytes. -/
def varL (v : Nat) : List UInt8 := if v < 128 then [UInt8.ofNat v] else UInt8.ofNat (v % 128 + 128) :: varL (v / 128)
termination_by v
decreasing_by omega
theorem varL_low {v : Nat} (h : v < 128) : varL v = [UInt8.ofNat v] := by rw [varL, if_pos h]
theorem varL_high {v : Nat} (h : ¬ v < 128) : varL v = UInt8.ofNat (v % 128 + 128) :: varL (v / 128) := by rw [varL, if_neg h]
theorem varL_le : ∀ (k v : Nat), v < 128 ^ (k + 1) → (varL v).length ≤ k + 1
  | 0, v, h => by rw [varL_low (by simpa using h)]; simp
  | k + 1, v, h => by
    by_cases h0 : v < 128
    · rw [varL_low h0]; simp
    ·
     rw [varL_high h0, List.length_cons]
     have := varL_le k (v / 128) (by rw [Nat.pow_succ] at h; omega)
     omega
theorem varL_ten {v : Nat} (h : v ≤ 18446744073709551615) : (varL v).length ≤ 10 := varL_le 9 v (by omega)
theorem varL_pos (v : Nat) : 0 < (varL v).length := by
  by_cases h0 : v < 128
  · rw [varL_low h0]; simp
  · rw [varL_high h0]; simp
theorem or_128 : ∀ y : Fin 256, y.val ||| 128 = y.val % 128 + 128 := by decide +kernel
theorem or_eq (x : Nat) : bits .or .u8 (IntKind.u8.wrap (x : Int)) 128 = ((UInt8.ofNat (x % 128 + 128)).toNat : Int) := by
  have e1 : IntKind.u8.wrap (x : Int) = ((x % 256 : Nat) : Int) := by rw [IntKind.wrap_u8]; omega
  have h := u8_or_nat (x % 256) 128 (by omega) (by decide)
  rw [e1]
  refine h.trans ?_
  rw [or_128 ⟨x % 256, by omega⟩]
  show ((x % 256 % 128 + 128 : Nat) : Int) = _
  rw [UInt8.toNat_ofNat']
  omega
theorem bytes_info : (Tryz.prog.info? 5).map (fun i => (i.zero, i.size, i.bytes)) = some (some (.int .u8 0), 1, 1) := rfl
theorem var_walk (x : Nat) (w0 : World) (h : x ≤ 18446744073709551615) : Does Tryz.prog 113 #[.int .u64 x] w0 (fun r w' => ∃ v', r = v' ∧ Ow w' w0.heap.size 5 1 v' (varL x).length ((varL x).map b8) ∧ Nw w0 w') := by
  have hten := varL_ten h
  refine fn_of (n := 19) (args := [.int .u64 x]) Tryz.func113 rfl rfl rfl (W_seq (W_region (L_r (r_av) (L_nil (W_seq (W_region (L_r (r_av) (L_nil ?_))))))))
  refine W_seq (W_block ?_)
  refine W_loopF [] (fun mz_ f W => ∃ (y : Nat) (A : List UInt8) (v3 : Value), f 0 = .int .u64 y ∧ f 3 = v3 ∧ (y ≤ 18446744073709551615 ∧ A ++ varL y = varL x ∧ Ow W w0.heap.size 5 1 v3 A.length (A.map b8) ∧ Nw w0 W) ∧ mz_ = y + 1) ?_ ?_
  ·
   refine ⟨_, x, [], .slice none 0 0, rfl, rfl, ?_, rfl⟩
   exact ⟨h, rfl, Ow.nil _ _ _ _, Ch.au⟩
  rintro m0 g0 w1 ⟨y, A, v3, hf0, hf3, hR0, rfl⟩
  refine W_as 0 hf0 rfl ?_
  refine W_as 3 hf3 rfl ?_
  clear hf0 hf3
  obtain ⟨hy, hA, hO, hnw⟩ := hR0
  have hz := hnw.size
  have hAl := congrArg List.length hA
  rw [List.length_append] at hAl
  have hyp := varL_pos y
  refine W_seq (W_seq (W_region (L_r (r_mi rfl) (L_r (r_geq rfl rfl) (L_nil ?_)))))
  refine W_if rfl (fun h5 => ?_) (fun h5 => ?_)
  ·
   refine W_skip (W_seq (W_block (W_region (L_r (r_mv) (L_r (r_mi rfl) ?_)))))
   refine L_r (r_conv Tryz.underlying80 Tryz.underlying5 rfl (by first | exact wr_u8 (by omega) | rfl)) (L_r (r_or rfl rfl) ?_)
   refine L_build1 [.int _ _] Tryz.underlying31 rfl rfl rfl (.plain rfl) rfl (by rfl) (by rfl) (by rfl) (fun b12 w2 hb12 hv12 eb2 hs2 c2 => ?_)
   have hB12 : Sl w2 (.slice (some ⟨b12, 0, none⟩) 1 1) 1 1 ([UInt8.ofNat (y % 128 + 128)].map b8) := by
     have e : ([UInt8.ofNat (y % 128 + 128)].map b8) = [.int .u8 (bits .or .u8 (IntKind.u8.wrap (y : Int)) 128)] := by rw [or_eq]; rfl
     rw [e]; exact hv12
   refine L_apow Tryz.underlying31 bytes_info rfl (by decide) (.plain rfl) rfl (by conv => lhs; whnf) (by conv => lhs; whnf) Ow.au Sl.au (b8_oneCell _) (by unfold maxLen; omega) (by omega) (by omega) (fun v13 w3 ho13 c3 hob13 => ?_)
   have hz3 := c3.size
   refine L_r (r_av) (L_nil (W_region (L_r (r_mi rfl) ?_)))
   refine L_r (r_shrc (q := 128) rfl rfl (by omega) (by decide)) (L_r (r_ai rfl) (L_nil ?_))
   refine ⟨trivial, _, ?_, y / 128, A ++ [UInt8.ofNat (y % 128 + 128)], v13, (by exact congrArg (Value.int _) (by omega)), rfl, ?_, rfl⟩
   · omega
   refine ⟨by omega, by rw [List.append_assoc, ← hA, varL_high (v := y) (by omega)]; rfl, ?_, Ch.au⟩
   rw [List.length_append, List.map_append]
   assumption
  ·
   refine W_exit ?_
   repeat (first | refine blk_hit ?_ | refine blk_miss rfl ?_)
   refine W_seq (W_region (L_r (r_mv) (L_r (r_mi rfl) ?_)))
   refine L_r (r_conv Tryz.underlying80 Tryz.underlying5 rfl (by first | exact wr_u8 (by omega) | rfl)) ?_
   refine L_build1 [.int _ _] Tryz.underlying31 rfl rfl rfl (.plain rfl) rfl (by rfl) (by rfl) (by rfl) (fun b17 w4 hb17 hv17 eb4 hs4 c4 => ?_)
   have hB17 : Sl w4 (.slice (some ⟨b17, 0, none⟩) 1 1) 1 1 ([UInt8.ofNat y].map b8) := by
     have e : ([UInt8.ofNat y].map b8) = [.int .u8 (y : Int)] := by
       show [Value.int .u8 ((UInt8.ofNat y).toNat : Int)] = _
       rw [UInt8.toNat_ofNat']
       congr 2
       omega
     rw [e]; exact hv17
   refine L_apow Tryz.underlying31 bytes_info rfl (by decide) (.plain rfl) rfl (by conv => lhs; whnf) (by conv => lhs; whnf) Ow.au Sl.au (b8_oneCell _) (by unfold maxLen; omega) (by omega) (by omega) (fun v18 w5 ho18 c5 hob18 => ?_)
   have hz5 := c5.size
   refine L_r (r_av) (L_nil (W_ret ?_))
   refine ret1 rfl (by conv => lhs; whnf) ?_
   refine ⟨_, rfl, ?_, Ch.au⟩
   rw [← hA, varL_low (v := y) (by omega), List.length_append, List.map_append]
   assumption
theorem rvar_walk (x : Nat) (w0 : World) (h : x ≤ 18446744073709551615) : Does Tryz.prog 100 #[.int .u64 x] w0 (fun r w' => r = .string (sb (varL x)) ∧ Nw w0 w') := by
  have hten := varL_ten h
  refine fn_of (n := 22) (args := [.int .u64 x]) Tryz.func100 rfl rfl rfl (W_seq (W_region (L_r (r_as rfl) (L_nil (W_seq (W_region (L_r (r_as rfl) (L_nil ?_))))))))
  refine W_seq (W_block ?_)
  refine W_loopF [] (fun mz_ f W => ∃ (y : Nat) (A : List UInt8), f 0 = .int .u64 y ∧ f 3 = .string (sb A) ∧ (y ≤ 18446744073709551615 ∧ A ++ varL y = varL x ∧ Nw w0 W) ∧ mz_ = y + 1) ?_ ?_
  ·
   refine ⟨_, x, [], rfl, rfl, ?_, rfl⟩
   exact ⟨h, rfl, Ch.au⟩
  rintro m0 g0 w1 ⟨y, A, hf0, hf3, hR0, rfl⟩
  refine W_as 0 hf0 rfl ?_
  refine W_as 3 hf3 rfl ?_
  clear hf0 hf3
  obtain ⟨hy, hA, hnw⟩ := hR0
  have hz := hnw.size
  have hAl := congrArg List.length hA
  rw [List.length_append] at hAl
  have hyp := varL_pos y
  have hsz := sb_size A
  refine W_seq (W_seq (W_region (L_r (r_mi rfl) (L_r (r_geq rfl rfl) (L_nil ?_)))))
  refine W_if rfl (fun h5 => ?_) (fun h5 => ?_)
  ·
   refine W_skip (W_block (W_seq (W_region (L_r (r_ms rfl) (L_r (r_mi rfl) ?_)))))
   refine L_r (r_remn rfl rfl (by omega) (by omega)) ?_
   refine L_r (r_add rfl rfl (by first | exact wr_u64 (by omega) | rfl)) ?_
   refine L_r (r_conv Tryz.underlying80 Tryz.underlying5 rfl (by first | exact wr_u8 (by omega) | rfl)) ?_
   refine L_build1 [.int _ _] Tryz.underlying31 rfl rfl rfl (.plain rfl) rfl (by rfl) (by rfl) (by rfl) (fun b11 w2 hb11 hv11 eb2 hs2 c2 => ?_)
   have hB11 : By w2 (.slice (some ⟨b11, 0, none⟩) 1 1) [UInt8.ofNat (y % 128 + 128)] := by
     have e : ([UInt8.ofNat (y % 128 + 128)].map b8) = [.int .u8 ((y : Int) % 128 + 128)] := by
       show [Value.int .u8 ((UInt8.ofNat (y % 128 + 128)).toNat : Int)] = _
       rw [UInt8.toNat_ofNat']
       congr 2
       omega
     show Sl _ _ 1 1 ([UInt8.ofNat (y % 128 + 128)].map b8)
     rw [e]; exact hv11
   refine L_r (r_bstr Tryz.underlying31 Tryz.underlying5 Tryz.underlying9 (by conv => lhs; whnf) Sl.au) ?_
   refine L_r (r_adds rfl rfl (by first | omega | (simp only [ByteArray.size_append, sb_size, List.length_cons, List.length_nil]; omega))) (L_r (r_as rfl) (L_nil (W_region (L_r (r_mi rfl) ?_))))
   refine L_r (r_quon rfl rfl (by omega) (by omega) (by first | exact wr_u64 (by omega) | rfl)) (L_r (r_ai rfl) (L_nil ?_))
   refine ⟨trivial, _, ?_, y / 128, A ++ [UInt8.ofNat (y % 128 + 128)], (by exact congrArg (Value.int _) (by omega)), (by exact congrArg Value.string (sb_append _ _).symm), ?_, rfl⟩
   · omega
   exact ⟨by omega, by rw [List.append_assoc, ← hA, varL_high (v := y) (by omega)]; rfl, Ch.au⟩
  ·
   refine W_exit ?_
   repeat (first | refine blk_hit ?_ | refine blk_miss rfl ?_)
   refine W_seq (W_region (L_r (r_ms rfl) (L_r (r_mi rfl) ?_)))
   refine L_r (r_conv Tryz.underlying80 Tryz.underlying5 rfl (by first | exact wr_u8 (by omega) | rfl)) ?_
   refine L_build1 [.int _ _] Tryz.underlying31 rfl rfl rfl (.plain rfl) rfl (by rfl) (by rfl) (by rfl) (fun b19 w3 hb19 hv19 eb3 hs3 c3 => ?_)
   have hB19 : By w3 (.slice (some ⟨b19, 0, none⟩) 1 1) [UInt8.ofNat y] := by
     have e : ([UInt8.ofNat y].map b8) = [.int .u8 (y : Int)] := by
       show [Value.int .u8 ((UInt8.ofNat y).toNat : Int)] = _
       rw [UInt8.toNat_ofNat']
       congr 2
       omega
     show Sl _ _ 1 1 ([UInt8.ofNat y].map b8)
     rw [e]; exact hv19
   refine L_r (r_bstr Tryz.underlying31 Tryz.underlying5 Tryz.underlying9 (by conv => lhs; whnf) Sl.au) ?_
   refine L_r (r_adds rfl rfl (by first | omega | (simp only [ByteArray.size_append, sb_size, List.length_cons, List.length_nil]; omega))) (L_r (r_as rfl) (L_nil (W_ret ?_)))
   refine ret1 (v := .string _) rfl rfl ?_
   exact ⟨by rw [← hA, varL_low (v := y) (by omega), sb_append], Ch.au⟩
theorem rint_walk (n : Int) (w0 : World) (h : -9223372036854775808 ≤ n ∧ n ≤ 9223372036854775807) : Does Tryz.prog 103 #[.int .i64 n] w0 (fun r w' => r = .string (sb (varL (zigI n).toNat)) ∧ Nw w0 w') := by
  have hzg : 0 ≤ zigI n ∧ zigI n ≤ 18446744073709551615 := by unfold zigI; split <;> omega
  obtain ⟨q, hq⟩ : ∃ q : Nat, zigI n = q := ⟨(zigI n).toNat, by omega⟩
  refine fn_of (n := 6) (args := [.int .i64 n]) Tryz.func103 rfl rfl rfl (W_seq (W_region (L_r (r_as rfl) (L_nil (W_seq (W_region (L_r (r_mi rfl) ?_)))))))
  refine L_call (.plain rfl) rfl rfl (r_call Tryz.func149 rfl rfl rfl (by rfl)) (rzig_walk n _ h) ?_
  rintro v4 w1 ⟨rfl, rfl⟩
  rw [hq]
  refine L_call (.plain rfl) rfl rfl (r_call Tryz.func100 rfl rfl rfl (by rfl)) (rvar_walk q _ (by omega)) ?_
  rintro v5 w2 ⟨rfl, c2⟩
  have hz2 := c2.size
  refine L_r (r_as rfl) (L_nil (W_ret ?_))
  refine ret1 (v := .string _) rfl rfl ?_
  exact ⟨rfl, Ch.au⟩
def flagL (b : Bool) : List UInt8 := if b then [1] else [0]
theorem rflag_walk (b : Bool) (w0 : World) : Does Tryz.prog 38 #[.bool b] w0 (fun r w' => r = .string (sb (flagL b)) ∧ w' = w0) := by
  refine fn_of (n := 4) (args := [.bool b]) Tryz.func38 rfl rfl rfl (W_seq (W_region (L_r (r_as rfl) (L_nil (W_seq (W_seq (W_region (L_r (r_mb rfl) ?_))))))))
  refine L_nil ?_
  refine W_bool rfl (fun h3 => ?_) (fun h3 => ?_)
  ·
   refine W_seq (W_region (L_r (r_as rfl) (L_nil (W_ret ?_))))
   refine ret1 (v := .string _) rfl rfl ?_
   first
     | (refine ⟨?_, rfl⟩; rename_i hb; subst hb; rfl)
     | (refine ⟨?_, rfl⟩; cases b <;> simp_all [flagL, sb])
  ·
   refine W_skip (W_seq (W_region (L_r (r_as rfl) (L_nil (W_ret ?_)))))
   refine ret1 (v := .string _) rfl rfl ?_
   first
     | (refine ⟨?_, rfl⟩; rename_i hb; subst hb; rfl)
     | (refine ⟨?_, rfl⟩; cases b <;> simp_all [flagL, sb])
theorem rtext_walk (s : ByteArray) (w0 : World) (hs : s.size ≤ 1000000000) : Does Tryz.prog 36 #[.string s] w0 (fun r w' => r = .string (sb (varL s.size) ++ s) ∧ Nw w0 w') := by
  have hten := varL_ten (v := s.size) (by omega)
  have hsz := sb_size (varL s.size)
  refine fn_of (n := 9) (args := [.string s]) Tryz.func36 rfl rfl rfl (W_seq (W_region (L_r (r_as rfl) (L_nil (W_seq (W_region (L_r (r_ms rfl) ?_)))))))
  refine L_r (r_lens Tryz.underlying9 rfl) ?_
  refine L_r (r_conv Tryz.underlying3 Tryz.underlying80 rfl (by first | exact wr_u64 (by omega) | rfl)) ?_
  refine L_call (.plain rfl) rfl rfl (r_call Tryz.func100 rfl rfl rfl (by rfl)) (rvar_walk s.size _ (by omega)) ?_
  rintro v6 w1 ⟨rfl, c1⟩
  have hz1 := c1.size
  refine L_r (r_ms rfl) ?_
  refine L_r (r_adds rfl rfl (by first | omega | (simp only [ByteArray.size_append]; omega))) (L_r (r_as rfl) (L_nil (W_ret ?_)))
  refine ret1 (v := .string _) rfl rfl ?_
  exact ⟨rfl, Ch.au⟩
end Go.Proofs.YthpknpfhpkkheaaGreatDoor
