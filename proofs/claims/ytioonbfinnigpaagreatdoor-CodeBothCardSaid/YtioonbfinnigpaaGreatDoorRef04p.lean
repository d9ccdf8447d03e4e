/- Instructions as bytes, by the document; instructions as an argument; walked. -/
import Derived.Test.YtioonbfinnigpaaGreatDoorRef04f
import Derived.Test.YtioonbfinnigpaaGreatDoorCodeA
import Derived.Test.YtioonbfinnigpaaGreatDoorCodeC
import Derived.Test.YtioonbfinnigpaaGreatDoorArgs
namespace Go.Proofs.YtioonbfinnigpaaGreatDoor
open Go Go.RowKit Go.ChangeShapes
set_option linter.unusedVariables false
set_option linter.unusedSimpArgs false
set_option maxRecDepth 100000
theorem ins_rt {x : Ins} (h : checkI x = 0) : ∃ k : Nat, k < 42 ∧ opZ x.op = (k : Int) ∧ insB x = (if rtI (takesF x.op) = 1 then varL k ++ varL (zigI x.n).toNat else if rtI (takesF x.op) = 2 then varL k ++ textL x.s else varL k) := by
  obtain ⟨k, o, hk, hko, ho, hon, ht, hone, h1, h2, h3⟩ := ok_parts h
  refine ⟨k, hk, by unfold opZ; rw [hko]; rfl, ?_⟩
  rw [insB_of hko, ho, ht]
  unfold insT
  obtain ⟨on, oa, ob⟩ := o
  simp only at hone
  cases oa <;> cases ob <;> first | exact absurd ⟨rfl, rfl⟩ hone | (simp [rtI]; done)
set_option maxHeartbeats 1000000 in
theorem rput04_walk (v : Value) (z : List Ins) (w0 : World) (hv : Sl w0 v 3 z.length (cellsI z)) (hl : z.length ≤ 10000) (hs : ∀ x ∈ z, (-9223372036854775808 ≤ x.n ∧ x.n ≤ 9223372036854775807) ∧ x.s.size ≤ 1000) (hok : ∀ x ∈ z, checkI x = 0) : Does Tryz.prog 10 #[v] w0 (fun r w' => r = .string (sb (putL z)) ∧ Nw w0 w') := by
  refine fn_of (n := 52) (args := [v]) Tryz.func10 rfl rfl rfl ?_
  refine W_seq ?_
  refine W_region ?_
  refine L_r (r_as rfl) ?_
  refine L_nil ?_
  refine W_seq ?_
  refine W_region ?_
  refine L_r (r_mv) ?_
  refine L_r (r_lenSl Tryz.underlying22 (by conv => lhs; whnf) Sl.au) ?_
  refine L_r (r_conv Tryz.underlying3 Tryz.underlying23 rfl (by first | exact wr_u64 (by omega) | rfl)) ?_
  refine L_call (.plain rfl) rfl rfl (r_call Tryz.func11 rfl rfl rfl (by rfl)) (rvar_walk z.length _ (by omega)) ?_
  rintro v8 w1 ⟨rfl, c1⟩
  have hz1 := c1.size
  have hzl : (varL z.length).length ≤ 10 := varL_ten (by omega)
  refine L_r (r_as rfl) ?_
  refine L_nil ?_
  refine W_seq ?_
  refine W_seq ?_
  refine W_region ?_
  refine L_r (r_ai rfl) ?_
  refine L_nil ?_
  refine W_block ?_
  refine W_loopF [0] (fun mz_ f W => ∃ (i : Nat) (B : List UInt8), f 4 = .int .i64 i ∧ f 3 = .string (sb B) ∧ (i ≤ z.length ∧ B = varL z.length ++ (z.take i).flatMap insB ∧ Nw w0 W) ∧ mz_ = z.length - i) ?_ ?_
  · refine ⟨_, 0, varL z.length, rfl, rfl, ?_, rfl⟩
    exact ⟨by omega, by simp, Ch.au⟩
  rintro m0 g0 w2 ⟨i, B, hf4, hf3, hR0, rfl⟩
  refine W_as 4 hf4 rfl ?_
  refine W_as 3 hf3 rfl ?_
  clear hf4 hf3
  obtain ⟨hi, hB, hnw⟩ := hR0
  have hz := hnw.size
  have hpl := put_len (z.take i) (fun x hx => hs x (List.mem_of_mem_take hx))
  rw [List.length_take] at hpl
  have hBl : B.length ≤ 10310000 := by rw [hB, List.length_append]; omega
  have hBs := sb_size B
  refine W_seq ?_
  refine W_seq ?_
  refine W_region ?_
  refine L_r (r_mi rfl) ?_
  refine L_r (r_mv) ?_
  refine L_r (r_lenSl Tryz.underlying22 (by conv => lhs; whnf) Sl.au) ?_
  refine L_r (r_lss rfl rfl) ?_
  refine L_nil ?_
  refine W_if rfl (fun h12 => ?_) (fun h12 => ?_)
  · have hil : i < z.length := by omega
    have hrow := cellsI_row z i hil
    have hsx := hs z[i] (List.getElem_mem _)
    obtain ⟨k, hk, hkz, hlx⟩ := ins_rt (hok z[i] (List.getElem_mem _))
    obtain ⟨x, hx⟩ : ∃ x, x = z[i] := ⟨_, rfl⟩
    rw [← hx] at hrow hsx hkz hlx
    have htk := rtakes_walk x.op
    generalize rtI (takesF x.op) = r at htk hlx
    have hkl : (varL k).length ≤ 10 := varL_ten (by omega)
    have hzgl : (varL (zigI x.n).toNat).length ≤ 10 := varL_ten (zig_le hsx.1)
    have hsl : (varL x.s.size).length ≤ 10 := varL_ten (by have := hsx.2; omega)
    have hs2 := hsx.2
    have hks := sb_size (varL k)
    have hzs := sb_size (varL (zigI x.n).toNat)
    have hss := sb_size (varL x.s.size)
    refine W_skip ?_
    refine W_seq ?_
    refine W_block ?_
    refine W_seq ?_
    refine W_region ?_
    refine L_r (r_ms rfl) ?_
    refine L_r (r_mv) ?_
    refine L_r (r_mi rfl) ?_
    refine L_r (r_ix Tryz.underlying22 (show _ = some 3 from rfl) (by conv => lhs; whnf) rfl Sl.au) ?_
    refine L_r (r_fieldSl Tryz.underlying47 rfl (show _ = some 1 from rfl) rfl (show _ = 0 from rfl) (Nat.add_zero _) rfl) ?_
    refine L_r (r_loadSl rfl rfl Sl.au (by first | exact hrow 0 _ rfl | exact hrow 1 _ rfl | exact hrow 2 _ rfl)) ?_
    refine L_call (.plain rfl) rfl rfl (r_call Tryz.func23 rfl rfl rfl (by rfl)) (rnumber_walk x.op _) ?_
    rintro v21 w3 ⟨rfl, c3⟩
    have hz3 := c3.size
    rw [hkz]
    refine L_r (r_conv Tryz.underlying3 Tryz.underlying23 rfl (by first | exact wr_u64 (by omega) | rfl)) ?_
    refine L_call (.plain rfl) rfl rfl (r_call Tryz.func11 rfl rfl rfl (by rfl)) (rvar_walk k _ (by omega)) ?_
    rintro v23 w4 ⟨rfl, c4⟩
    have hz4 := c4.size
    refine L_r (r_adds rfl rfl (by first | omega | (simp only [ByteArray.size_append]; omega))) ?_
    refine L_r (r_as rfl) ?_
    refine L_nil ?_
    refine W_seq ?_
    refine W_region ?_
    refine L_r (r_mv) ?_
    refine L_r (r_mi rfl) ?_
    refine L_r (r_ix Tryz.underlying22 (show _ = some 3 from rfl) (by conv => lhs; whnf) rfl Sl.au) ?_
    refine L_r (r_fieldSl Tryz.underlying47 rfl (show _ = some 1 from rfl) rfl (show _ = 0 from rfl) (Nat.add_zero _) rfl) ?_
    refine L_r (r_loadSl rfl rfl Sl.au (by first | exact hrow 0 _ rfl | exact hrow 1 _ rfl | exact hrow 2 _ rfl)) ?_
    refine L_call (.plain rfl) rfl rfl (r_call Tryz.func24 rfl rfl rfl (by rfl)) (htk _) ?_
    rintro v30 w5 ⟨rfl, c5⟩
    have hz5 := c5.size
    refine L_nil ?_
    refine W_block ?_
    refine W_seq ?_
    refine W_region ?_
    refine L_r (r_eql rfl rfl) ?_
    refine L_r (r_ab rfl) ?_
    refine L_nil ?_
    refine W_if rfl (fun h31 => ?_) (fun h31 => ?_)
    · refine W_region ?_
      refine L_r (r_ms rfl) ?_
      refine L_r (r_mv) ?_
      refine L_r (r_mi rfl) ?_
      refine L_r (r_ix Tryz.underlying22 (show _ = some 3 from rfl) (by conv => lhs; whnf) rfl Sl.au) ?_
      refine L_r (r_fieldSl Tryz.underlying47 rfl (show _ = some 1 from rfl) rfl (show _ = 1 from rfl) rfl rfl) ?_
      refine L_r (r_loadSl rfl rfl Sl.au (by first | exact hrow 0 _ rfl | exact hrow 1 _ rfl | exact hrow 2 _ rfl)) ?_
      refine L_call (.plain rfl) rfl rfl (r_call Tryz.func25 rfl rfl rfl (by rfl)) (rint_walk x.n _ hsx.1) ?_
      rintro v39 w6 ⟨rfl, c6⟩
      have hz6 := c6.size
      refine L_r (r_adds rfl rfl (by first | omega | (simp only [ByteArray.size_append]; omega))) ?_
      refine L_r (r_as rfl) ?_
      refine L_nil ?_
      refine W_region ?_
      refine L_r (r_mi rfl) ?_
      refine L_r (r_add rfl rfl (by first | exact wr_i64 (by omega) | rfl)) ?_
      refine L_r (r_ai rfl) ?_
      refine L_nil ?_
      refine ⟨⟨fx2, trivial⟩, _, ?_, i + 1, B ++ insB x, rfl, (by refine congrArg Value.string ?_; rw [hlx]; first | (rw [if_pos (by assumption)]; simp only [sb_append, ByteArray.append_assoc]; done) | (rw [if_neg (by assumption), if_pos (by assumption), textL]; simp only [sb_append, sb_bs, ByteArray.append_assoc]; done) | (rw [if_neg (by assumption), if_neg (by assumption)]; simp only [sb_append, ByteArray.append_assoc]; done)), ?_, rfl⟩
      · omega
      exact ⟨by omega, by rw [put_take hil, ← List.append_assoc, ← hB, hx], Ch.au⟩
    · refine W_seq ?_
      refine W_region ?_
      refine L_r (r_eql rfl rfl) ?_
      refine L_r (r_ab rfl) ?_
      refine L_nil ?_
      refine W_if rfl (fun h41 => ?_) (fun h41 => ?_)
      · refine W_region ?_
        refine L_r (r_ms rfl) ?_
        refine L_r (r_mv) ?_
        refine L_r (r_mi rfl) ?_
        refine L_r (r_ix Tryz.underlying22 (show _ = some 3 from rfl) (by conv => lhs; whnf) rfl Sl.au) ?_
        refine L_r (r_fieldSl Tryz.underlying47 rfl (show _ = some 1 from rfl) rfl (show _ = 2 from rfl) rfl rfl) ?_
        refine L_r (r_loadSl rfl rfl Sl.au (by first | exact hrow 0 _ rfl | exact hrow 1 _ rfl | exact hrow 2 _ rfl)) ?_
        refine L_call (.plain rfl) rfl rfl (r_call Tryz.func26 rfl rfl rfl (by rfl)) (rtext_walk x.s _ (by omega)) ?_
        rintro v49 w7 ⟨rfl, c7⟩
        have hz7 := c7.size
        refine L_r (r_adds rfl rfl (by first | omega | (simp only [ByteArray.size_append]; omega))) ?_
        refine L_r (r_as rfl) ?_
        refine L_nil ?_
        refine W_region ?_
        refine L_r (r_mi rfl) ?_
        refine L_r (r_add rfl rfl (by first | exact wr_i64 (by omega) | rfl)) ?_
        refine L_r (r_ai rfl) ?_
        refine L_nil ?_
        refine ⟨⟨fx2, trivial⟩, _, ?_, i + 1, B ++ insB x, rfl, (by refine congrArg Value.string ?_; rw [hlx]; first | (rw [if_pos (by assumption)]; simp only [sb_append, ByteArray.append_assoc]; done) | (rw [if_neg (by assumption), if_pos (by assumption), textL]; simp only [sb_append, sb_bs, ByteArray.append_assoc]; done) | (rw [if_neg (by assumption), if_neg (by assumption)]; simp only [sb_append, ByteArray.append_assoc]; done)), ?_, rfl⟩
        · omega
        exact ⟨by omega, by rw [put_take hil, ← List.append_assoc, ← hB, hx], Ch.au⟩
      · refine W_skip ?_
        refine W_region ?_
        refine L_r (r_mi rfl) ?_
        refine L_r (r_add rfl rfl (by first | exact wr_i64 (by omega) | rfl)) ?_
        refine L_r (r_ai rfl) ?_
        refine L_nil ?_
        refine ⟨⟨fx2, trivial⟩, _, ?_, i + 1, B ++ insB x, rfl, (by refine congrArg Value.string ?_; rw [hlx]; first | (rw [if_pos (by assumption)]; simp only [sb_append, ByteArray.append_assoc]; done) | (rw [if_neg (by assumption), if_pos (by assumption), textL]; simp only [sb_append, sb_bs, ByteArray.append_assoc]; done) | (rw [if_neg (by assumption), if_neg (by assumption)]; simp only [sb_append, ByteArray.append_assoc]; done)), ?_, rfl⟩
        · omega
        exact ⟨by omega, by rw [put_take hil, ← List.append_assoc, ← hB, hx], Ch.au⟩
  · refine W_exit ?_
    repeat (first | refine blk_hit ?_ | refine blk_miss rfl ?_)
    refine W_seq ?_
    refine W_region ?_
    refine L_r (r_ms rfl) ?_
    refine L_r (r_as rfl) ?_
    refine L_nil ?_
    refine W_ret ?_
    refine ret1 (v := .string _) rfl rfl ?_
    exact ⟨by unfold putL; rw [hB, List.take_of_length_le (by omega)], Ch.au⟩
instance : Inhabited Ins := ⟨⟨ByteArray.empty, 0, ByteArray.empty⟩⟩
theorem st_at' {H : Type} {enc : TypeId × Value → H} {P : Program} {W : World} {n : Nat} {cs : List Value} {fs : Array Field} {xs : List (DataW H × List MemPlace)} (hl : xs.length = fs.size)
    (hf : ∀ (i : Nat) (f : Field), fs[i]? = some f → DataW.trod enc P W 0 (fun _ => true) true n f.type ((cs.drop f.offset).take (P.cellsOf f.type)) = xs[i]?) (i : Nat) (f : Field) (h : fs[i]? = some f) :
    ∃ y, DataW.trod enc P W 0 (fun _ => true) true n f.type ((cs.drop f.offset).take (P.cellsOf f.type)) = some y := by
  have hi : i < xs.length := by rw [hl]; exact (Array.getElem?_eq_some_iff.1 h).1
  exact ⟨xs[i], by rw [hf i f h, List.getElem?_eq_getElem hi]⟩
theorem wf_i64' {n : Int} (h : (Lit.int .i64 n).wf = true) : -9223372036854775808 ≤ n ∧ n ≤ 9223372036854775807 := by simpa [Lit.wf, IntKind.min, IntKind.max, IntKind.signed, IntKind.bits] using h
theorem rd_22 {H : Type} {enc : TypeId × Value → H} {W : World} {b0 j : Nat} {v : Value} {d : DataW H} {p : List MemPlace} {R : Prop} (_ : R) (_ : 0 = 0) (_ : 0 = 0)
    (hok : Value.okWide Tryz.prog W .any b0 22 v) (h : DataW.Trod enc Tryz.prog W 0 (fun _ => true) true 22 v d p) : ∃ z : List Ins, Sl W v 3 z.length (cellsI z) ∧ ∀ x ∈ z, -9223372036854775808 ≤ x.n ∧ x.n ≤ 9223372036854775807 := by
  obtain ⟨z, hz, hq⟩ := sl_arg insl 3 (fun x => -9223372036854775808 ≤ x.n ∧ x.n ≤ 9223372036854775807) (fun _ => rfl) Tryz.underlying22 rfl (fun n cs y hy => by
    obtain ⟨xs, m, _, _, hl, hxl, hf⟩ := DataW.trod_struct Tryz.underlying47 hy
    have hl3 : cs.length = 3 := hl
    match cs, hl3 with
    | [c0, c1, c2], _ =>
      obtain ⟨y0, g0⟩ := st_at' hxl hf 0 _ rfl
      obtain ⟨y1, g1⟩ := st_at' hxl hf 1 _ rfl
      obtain ⟨y2, g2⟩ := st_at' hxl hf 2 _ rfl
      obtain ⟨n0, e0, _⟩ := DataW.trod_string Tryz.underlying9 g0
      obtain ⟨n1, e1, _, k1⟩ := DataW.trod_int Tryz.underlying2 g1
      obtain ⟨n2, e2, _⟩ := DataW.trod_string Tryz.underlying9 g2
      have f0 : c0 = .string n0 := (List.cons.inj e0).1
      have f1 : c1 = .int .i64 n1 := (List.cons.inj e1).1
      have f2 : c2 = .string n2 := (List.cons.inj e2).1
      exact ⟨⟨n0, n1, n2⟩, by rw [f0, f1, f2], wf_i64' k1⟩) hok h
  exact ⟨z, hz, hq⟩
end Go.Proofs.YtioonbfinnigpaaGreatDoor

