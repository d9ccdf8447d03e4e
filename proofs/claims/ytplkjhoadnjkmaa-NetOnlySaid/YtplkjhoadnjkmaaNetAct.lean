/- The acts that are handed in. -/
import Derived.Test.YtplkjhoadnjkmaaNetPlays
namespace Go.Proofs.Ytplkjhoadnjkmaa
open Go Go.RowKit
set_option linter.unusedVariables false
set_option linter.unusedSimpArgs false
theorem NetAt.tb {base b0 : Nat} {w w' : World} {b : Nat} {most : Int} {L : List (Int × List UInt8)} {ts : List TypeId} (h : NetAt base w b most L) (c : Ch (Tb b0 w ts) w w') (h1 : ts.contains 57 = false) (h2 : ts.contains 60 = false) (h3 : ts.contains 5 = false) : NetAt base w' b most L := by
  obtain ⟨v, M, k1, k2, k3, k4⟩ := h
  exact ⟨v, M, k1.ch c (Tb.not_bk k1 h1), k2, k3.tb c h2, k4.tb c h3⟩
theorem ow_apart {w : World} {b1 b2 e e' s1 s2 n1 n2 : Nat} {v v' : Value} {xs ys : List Value} (h : Ow w b1 e s1 v n1 xs) (h' : Ow w b2 e' s2 v' n2 ys) (hne : e ≠ e') : ∀ j, v.ownBlock = some j → v'.ownBlock ≠ some j := by
  intro j h1 h2
  obtain ⟨_, k1⟩ := h.bk h1
  obtain ⟨_, k2⟩ := h'.bk h2
  exact Bk.ne k1 k2 hne rfl
structure Act where
  K : Int
  to : Int
  i : Int
  at_ : Int
  s : ByteArray
instance : Inhabited Act := ⟨⟨0, 0, 0, 0, ByteArray.empty⟩⟩
def actCells (a : Act) : List Value := [.int .i64 a.K, .int .i64 a.to, .int .i64 a.i, .int .i64 a.at_, .string a.s]
def cellsA (z : List Act) : List Value := z.flatMap actCells
theorem cellsA_row : ∀ (z : List Act) (i : Nat) (h : i < z.length) (j : Nat) (u : Value), (actCells z[i])[j]? = some u → (cellsA z)[i * 5 + j]? = some u
  | x :: z, 0, _, j, u, hj => by
    have hj5 : j < 5 := by have := (List.getElem?_eq_some_iff.1 hj).1; simpa [actCells] using this
    simp only [cellsA, List.flatMap_cons, Nat.zero_mul, Nat.zero_add]
    rw [List.getElem?_append_left (by simpa [actCells] using hj5)]
    exact hj
  | x :: z, i + 1, h, j, u, hj => by
    have := cellsA_row z i (by simpa using h) j u hj
    simp only [cellsA, List.flatMap_cons]
    rw [List.getElem?_append_right (by simp [actCells]; omega)]
    rw [show (i + 1) * 5 + j - (actCells x).length = i * 5 + j by simp [actCells]; omega]
    exact this
def Good (most : Int) (R : List (Int × ByteArray)) : Prop := (∀ p ∈ R, (0 ≤ p.1 ∧ p.1 ≤ 1) ∧ p.2.size ≤ 300) ∧ (R.length : Int) ≤ most
theorem Good.step {most : Int} {R : List (Int × ByteArray)} (h : Good most R) (K to i at_ : Int) (s : ByteArray) (hs : s.size ≤ 300) : Good most (stp most R K to i at_ s).1 := by
  have app : ∀ q : Int × ByteArray, (0 ≤ q.1 ∧ q.1 ≤ 1) → q.2.size ≤ 300 → (R.length : Int) < most → Good most (R ++ [q]) := fun q h1 h2 h3 => ⟨fun p hp => by
    rcases List.mem_append.1 hp with hp | hp
    · exact h.1 p hp
    · rw [List.mem_singleton] at hp; subst hp; exact ⟨h1, h2⟩, by rw [List.length_append]; simp; omega⟩
  have er : ∀ k, Good most (R.eraseIdx k) := fun k => ⟨fun p hp => h.1 p (List.mem_of_mem_eraseIdx hp), by have := h.2; rw [List.length_eraseIdx]; split <;> omega⟩
  unfold stp
  split
  · split
    · rename_i hc; exact app (to, s) ⟨hc.1, hc.2.1⟩ hs hc.2.2
    · exact h
  split
  · exact h
  split
  · rename_i hi
    have hk : i.toNat < R.length := by omega
    have hq := h.1 _ (List.getElem_mem hk)
    rw [getD_at R _ hk]
    split
    · exact er _
    split
    · split
      · rename_i hm; exact app _ hq.1 hq.2 hm
      · exact h
    split
    · exact er _
    · refine ⟨fun p hp => ?_, by rw [List.length_set]; exact h.2⟩
      rcases List.mem_or_eq_of_mem_set hp with hp | hp
      · exact h.1 p hp
      · subst hp
        refine ⟨hq.1, ?_⟩
        show (sb (turn (bs R[i.toNat].2) at_ (bs s))).size ≤ 300
        rw [sb_size, turn_length, bs_length]
        exact hq.2
  · exact h
theorem st_at {H : Type} {enc : TypeId × Value → H} {P : Program} {W : World} {n : Nat} {cs : List Value} {fs : Array Field} {xs : List (DataW H × List MemPlace)} (hl : xs.length = fs.size)
    (hf : ∀ (i : Nat) (f : Field), fs[i]? = some f → DataW.trod enc P W 0 (fun _ => true) true n f.type ((cs.drop f.offset).take (P.cellsOf f.type)) = xs[i]?) (i : Nat) (f : Field) (h : fs[i]? = some f) :
    ∃ y, DataW.trod enc P W 0 (fun _ => true) true n f.type ((cs.drop f.offset).take (P.cellsOf f.type)) = some y := by
  have hi : i < xs.length := by rw [hl]; exact (Array.getElem?_eq_some_iff.1 h).1
  exact ⟨xs[i], by rw [hf i f h, List.getElem?_eq_getElem hi]⟩
theorem rd_40 {H : Type} {enc : TypeId × Value → H} {W : World} {b0 j : Nat} {v : Value} {d : DataW H} {p : List MemPlace} {R : Prop} (_ : R) (_ : 0 = 0) (_ : 0 = 0)
    (hok : Value.okWide Try.prog W .any b0 40 v) (h : DataW.Trod enc Try.prog W 0 (fun _ => true) true 40 v d p) : ∃ z : List Act, Sl W v 5 z.length (cellsA z) := by
  obtain ⟨z, hz, _⟩ := sl_arg actCells 5 (fun _ => True) (fun _ => rfl) Try.underlying40 rfl (fun n cs y hy => by
    obtain ⟨xs, m, _, _, hl, hxl, hf⟩ := DataW.trod_struct Try.underlying45 hy
    have hl5 : cs.length = 5 := hl
    match cs, hl5 with
    | [c0, c1, c2, c3, c4], _ =>
      obtain ⟨y0, g0⟩ := st_at hxl hf 0 _ rfl
      obtain ⟨y1, g1⟩ := st_at hxl hf 1 _ rfl
      obtain ⟨y2, g2⟩ := st_at hxl hf 2 _ rfl
      obtain ⟨y3, g3⟩ := st_at hxl hf 3 _ rfl
      obtain ⟨y4, g4⟩ := st_at hxl hf 4 _ rfl
      obtain ⟨n0, e0, _⟩ := DataW.trod_int Try.underlying3 g0
      obtain ⟨n1, e1, _⟩ := DataW.trod_int Try.underlying3 g1
      obtain ⟨n2, e2, _⟩ := DataW.trod_int Try.underlying3 g2
      obtain ⟨n3, e3, _⟩ := DataW.trod_int Try.underlying3 g3
      obtain ⟨n4, e4, _⟩ := DataW.trod_string Try.underlying9 g4
      have f0 : c0 = .int .i64 n0 := (List.cons.inj e0).1
      have f1 : c1 = .int .i64 n1 := (List.cons.inj e1).1
      have f2 : c2 = .int .i64 n2 := (List.cons.inj e2).1
      have f3 : c3 = .int .i64 n3 := (List.cons.inj e3).1
      have f4 : c4 = .string n4 := (List.cons.inj e4).1
      exact ⟨⟨n0, n1, n2, n3, n4⟩, by rw [f0, f1, f2, f3, f4]; rfl, trivial⟩) hok h
  exact ⟨z, hz⟩
end Go.Proofs.Ytplkjhoadnjkmaa

