/- A message, as an argument; the statements MessageReplies, MessagePuts, walked. -/
import Derived.Test.YtcbcelfgbelaoaaDoorMsgA
import Derived.OpenShut
namespace Go.Proofs.YtcbcelfgbelaoaaDoor
open Go Go.RowKit
set_option linter.unusedVariables false
set_option linter.unusedSimpArgs false
theorem wf_u64 {n : Int} (h : (Lit.int .u64 n).wf = true) : 0 ≤ n ∧ n ≤ 18446744073709551615 := by simpa [Lit.wf, IntKind.min, IntKind.max, IntKind.signed, IntKind.bits] using h
theorem st_at {H : Type} {enc : TypeId × Value → H} {P : Program} {W : World} {n : Nat} {cs : List Value} {fs : Array Field} {xs : List (DataW H × List MemPlace)} (hl : xs.length = fs.size)
    (hf : ∀ (i : Nat) (f : Field), fs[i]? = some f → DataW.trod enc P W 0 (fun _ => true) true n f.type ((cs.drop f.offset).take (P.cellsOf f.type)) = xs[i]?) (i : Nat) (f : Field) (h : fs[i]? = some f) :
    ∃ y, DataW.trod enc P W 0 (fun _ => true) true n f.type ((cs.drop f.offset).take (P.cellsOf f.type)) = some y := by
  have hi : i < xs.length := by rw [hl]; exact (Array.getElem?_eq_some_iff.1 h).1
  exact ⟨xs[i], by rw [hf i f h, List.getElem?_eq_getElem hi]⟩
theorem rd_24 {H : Type} {enc : TypeId × Value → H} {W : World} {b0 : Nat} {v : Value} {d : DataW H} {p : List MemPlace}
    (hok : Value.okWide Tryd.prog W .any b0 24 v) (h : DataW.Trod enc Tryd.prog W 0 (fun _ => true) true 24 v d p) : ∃ z : Msg, v = z.v ∧ z.ok := by
  have hag : ∃ cs, v = .agg cs ∧ cs.size = Tryd.prog.cellsOf 24 := by
    unfold Value.okWide at hok
    rw [Tryd.underlying24] at hok
    obtain ⟨cs, h1, h2, _⟩ := hok
    exact ⟨cs, h1, h2⟩
  obtain ⟨cs, rfl, hsz⟩ := hag
  obtain ⟨n, hy⟩ := h
  obtain ⟨xs, m, _, _, hl, hxl, hf⟩ := DataW.trod_struct Tryd.underlying24 hy
  have hl8 : cs.toList.length = 8 := by rw [Array.length_toList]; exact hsz
  have hcs : cs = cs.toList.toArray := by simp
  have hf2 : ∀ (i : Nat) (f : Field), _ = some f → DataW.trod enc Tryd.prog W 0 (fun _ => true) true m f.type ((cs.toList.drop f.offset).take (Tryd.prog.cellsOf f.type)) = xs[i]? := hf
  rw [hcs]
  generalize cs.toList = L at hl8 hf2
  match L, hl8 with
  | [c0, c1, c2, c3, c4, c5, c6, c7], _ =>
    obtain ⟨y0, g0⟩ := st_at hxl hf2 0 _ rfl
    obtain ⟨y1, g1⟩ := st_at hxl hf2 1 _ rfl
    obtain ⟨y2, g2⟩ := st_at hxl hf2 2 _ rfl
    obtain ⟨y3, g3⟩ := st_at hxl hf2 3 _ rfl
    obtain ⟨y4, g4⟩ := st_at hxl hf2 4 _ rfl
    obtain ⟨y5, g5⟩ := st_at hxl hf2 5 _ rfl
    obtain ⟨y6, g6⟩ := st_at hxl hf2 6 _ rfl
    obtain ⟨y7, g7⟩ := st_at hxl hf2 7 _ rfl
    obtain ⟨n0, e0, _⟩ := DataW.trod_int Tryd.underlying3 g0
    obtain ⟨n1, e1, _, k1⟩ := DataW.trod_int Tryd.underlying22 g1
    obtain ⟨n2, e2, _, k2⟩ := DataW.trod_int Tryd.underlying22 g2
    obtain ⟨n3, e3, _, k3⟩ := DataW.trod_int Tryd.underlying22 g3
    obtain ⟨n4, e4, _, k4⟩ := DataW.trod_int Tryd.underlying22 g4
    obtain ⟨n5, e5, _⟩ := DataW.trod_string Tryd.underlying9 g5
    obtain ⟨n6, e6, _⟩ := DataW.trod_int Tryd.underlying3 g6
    obtain ⟨n7, e7, _⟩ := DataW.trod_string Tryd.underlying9 g7
    have f0 : c0 = .int .i64 n0 := (List.cons.inj e0).1
    have f1 : c1 = .int .u64 n1 := (List.cons.inj e1).1
    have f2 : c2 = .int .u64 n2 := (List.cons.inj e2).1
    have f3 : c3 = .int .u64 n3 := (List.cons.inj e3).1
    have f4 : c4 = .int .u64 n4 := (List.cons.inj e4).1
    have f5 : c5 = .string n5 := (List.cons.inj e5).1
    have f6 : c6 = .int .i64 n6 := (List.cons.inj e6).1
    have f7 : c7 = .string n7 := (List.cons.inj e7).1
    exact ⟨⟨n0, n1, n2, n3, n4, n5, n6, n7⟩, by rw [f0, f1, f2, f3, f4, f5, f6, f7], ⟨wf_u64 k1, wf_u64 k2, wf_u64 k3, wf_u64 k4⟩⟩
end Go.Proofs.YtcbcelfgbelaoaaDoor

