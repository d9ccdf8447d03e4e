/- The acts that are handed in. -/
import Derived.Test.YtjjddbicggfgnaaCalY
import Derived.Test.YtjjddbicggfgnaaArgs
namespace Go.Proofs.Ytjjddbicggfgnaa
open Go Go.RowKit
set_option linter.unusedVariables false
set_option linter.unusedSimpArgs false
set_option maxRecDepth 100000
structure SAct where
  k : Int
  m : Msg
instance : Inhabited SAct := ⟨⟨0, Msg.zero⟩⟩
abbrev sa (a : SAct) : List Value := [.int .i64 a.k, .int .i64 a.m.kind, .int .u64 a.m.life, .int .u64 a.m.seq, .int .u64 a.m.below, .int .u64 a.m.object, .string a.m.method, .int .i64 a.m.way, .string a.m.body]
def cellsS (z : List SAct) : List Value := z.flatMap sa
theorem cellsS_row : ∀ (z : List SAct) (i : Nat) (h : i < z.length) (j : Nat) (u : Value), (sa z[i])[j]? = some u → (cellsS z)[i * 9 + j]? = some u
  | x :: z, 0, _, j, u, hj => by
    have hj9 : j < 9 := by have := (List.getElem?_eq_some_iff.1 hj).1; simpa [sa] using this
    simp only [cellsS, List.flatMap_cons, Nat.zero_mul, Nat.zero_add]
    rw [List.getElem?_append_left (by simpa [sa] using hj9)]
    exact hj
  | x :: z, i + 1, h, j, u, hj => by
    have := cellsS_row z i (by simpa using h) j u hj
    simp only [cellsS, List.flatMap_cons]
    rw [List.getElem?_append_right (by simp [sa]; omega)]
    rw [show (i + 1) * 9 + j - (sa x).length = i * 9 + j by simp [sa]; omega]
    exact this
theorem st_at {H : Type} {enc : TypeId × Value → H} {P : Program} {W : World} {n : Nat} {cs : List Value} {fs : Array Field} {xs : List (DataW H × List MemPlace)} (hl : xs.length = fs.size)
    (hf : ∀ (i : Nat) (f : Field), fs[i]? = some f → DataW.trod enc P W 0 (fun _ => true) true n f.type ((cs.drop f.offset).take (P.cellsOf f.type)) = xs[i]?) (i : Nat) (f : Field) (h : fs[i]? = some f) :
    ∃ y, DataW.trod enc P W 0 (fun _ => true) true n f.type ((cs.drop f.offset).take (P.cellsOf f.type)) = some y := by
  have hi : i < xs.length := by rw [hl]; exact (Array.getElem?_eq_some_iff.1 h).1
  exact ⟨xs[i], by rw [hf i f h, List.getElem?_eq_getElem hi]⟩
theorem wf64 {n : Int} (h : (Lit.int .u64 n).wf = true) : 0 ≤ n ∧ n ≤ 18446744073709551615 := by simpa [Lit.wf, IntKind.min, IntKind.max, IntKind.signed, IntKind.bits] using h
theorem rd_msg {H : Type} {enc : TypeId × Value → H} {W : World} {n : Nat} {cs : List Value} {y : DataW H × List MemPlace} (hy : DataW.trod enc Try.prog W 0 (fun _ => true) true n 33 cs = some y) : ∃ m : Msg, cs = [.int .i64 m.kind, .int .u64 m.life, .int .u64 m.seq, .int .u64 m.below, .int .u64 m.object, .string m.method, .int .i64 m.way, .string m.body] ∧ m.ok := by
  obtain ⟨xs, m, _, _, hl, hxl, hf⟩ := DataW.trod_struct Try.underlying33 hy
  have hl8 : cs.length = 8 := hl
  match cs, hl8 with
  | [c0, c1, c2, c3, c4, c5, c6, c7], _ =>
    obtain ⟨y0, g0⟩ := st_at hxl hf 0 _ rfl
    obtain ⟨y1, g1⟩ := st_at hxl hf 1 _ rfl
    obtain ⟨y2, g2⟩ := st_at hxl hf 2 _ rfl
    obtain ⟨y3, g3⟩ := st_at hxl hf 3 _ rfl
    obtain ⟨y4, g4⟩ := st_at hxl hf 4 _ rfl
    obtain ⟨y5, g5⟩ := st_at hxl hf 5 _ rfl
    obtain ⟨y6, g6⟩ := st_at hxl hf 6 _ rfl
    obtain ⟨y7, g7⟩ := st_at hxl hf 7 _ rfl
    obtain ⟨n0, e0, _⟩ := DataW.trod_int Try.underlying3 g0
    obtain ⟨n1, e1, w1⟩ := DataW.trod_int Try.underlying26 g1
    obtain ⟨n2, e2, w2⟩ := DataW.trod_int Try.underlying26 g2
    obtain ⟨n3, e3, w3⟩ := DataW.trod_int Try.underlying26 g3
    obtain ⟨n4, e4, w4⟩ := DataW.trod_int Try.underlying26 g4
    obtain ⟨n5, e5, _⟩ := DataW.trod_string Try.underlying9 g5
    obtain ⟨n6, e6, _⟩ := DataW.trod_int Try.underlying3 g6
    obtain ⟨n7, e7, _⟩ := DataW.trod_string Try.underlying9 g7
    have f0 : c0 = .int .i64 n0 := (List.cons.inj e0).1
    have f1 : c1 = .int .u64 n1 := (List.cons.inj e1).1
    have f2 : c2 = .int .u64 n2 := (List.cons.inj e2).1
    have f3 : c3 = .int .u64 n3 := (List.cons.inj e3).1
    have f4 : c4 = .int .u64 n4 := (List.cons.inj e4).1
    have f5 : c5 = .string n5 := (List.cons.inj e5).1
    have f6 : c6 = .int .i64 n6 := (List.cons.inj e6).1
    have f7 : c7 = .string n7 := (List.cons.inj e7).1
    exact ⟨⟨n0, n1, n2, n3, n4, n5, n6, n7⟩, by rw [f0, f1, f2, f3, f4, f5, f6, f7], ⟨wf64 w1.2, wf64 w2.2, wf64 w3.2, wf64 w4.2⟩⟩
theorem rd_37 {H : Type} {enc : TypeId × Value → H} {W : World} {b0 j : Nat} {v : Value} {d : DataW H} {p : List MemPlace} {R : Prop} (_ : R) (_ : 0 = 0) (_ : 0 = 0)
    (hok : Value.okWide Try.prog W .any b0 37 v) (h : DataW.Trod enc Try.prog W 0 (fun _ => true) true 37 v d p) : ∃ z : List SAct, Sl W v 9 z.length (cellsS z) ∧ ∀ a ∈ z, a.m.ok := by
  obtain ⟨z, hz, hq⟩ := sl_arg sa 9 (fun a => a.m.ok) (fun _ => rfl) Try.underlying37 rfl (fun n cs y hy => by
    obtain ⟨xs, m, _, _, hl, hxl, hf⟩ := DataW.trod_struct Try.underlying43 hy
    have hl9 : cs.length = 9 := hl
    match cs, hl9 with
    | [c, c0, c1, c2, c3, c4, c5, c6, c7], _ =>
      obtain ⟨y0, g0⟩ := st_at hxl hf 0 _ rfl
      obtain ⟨y1, g1⟩ := st_at hxl hf 1 _ rfl
      obtain ⟨n0, e0, _⟩ := DataW.trod_int Try.underlying3 g0
      have f0 : c = .int .i64 n0 := (List.cons.inj e0).1
      obtain ⟨mm, em, hmo⟩ := rd_msg g1
      have em2 : [c0, c1, c2, c3, c4, c5, c6, c7] = [.int .i64 mm.kind, .int .u64 mm.life, .int .u64 mm.seq, .int .u64 mm.below, .int .u64 mm.object, .string mm.method, .int .i64 mm.way, .string mm.body] := em
      exact ⟨⟨n0, mm⟩, by rw [f0]; exact congrArg (List.cons _) em2, hmo⟩) hok h
  exact ⟨z, hz, hq⟩
end Go.Proofs.Ytjjddbicggfgnaa

