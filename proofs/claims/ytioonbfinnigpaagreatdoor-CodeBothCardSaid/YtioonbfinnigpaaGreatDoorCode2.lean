/- What an operator has; all operators; walked. -/
import Derived.Test.YtioonbfinnigpaaGreatDoorCode1
namespace Go.Proofs.YtioonbfinnigpaaGreatDoor
open Go Go.RowKit
set_option linter.unusedVariables false
set_option linter.unusedSimpArgs false
set_option maxRecDepth 100000
/-- What an operator has: a number, a text; and whether there is one. -/
def takesF (s : ByteArray) : Bool × Bool × Bool := match opIx s with
  | some k => ((opT.getD k default).2.1, (opT.getD k default).2.2, true)
  | none => (false, false, false)
theorem opIx_lt {s : ByteArray} {k : Nat} (h : opIx s = some k) : k < 42 := by
  obtain ⟨h1, _⟩ := opIx_some h
  rw [opT_len] at h1; exact h1
theorem gv_row {base : Nat} {w : World} (h : Gv base w) {k : Nat} (hk : k < 42) : ∀ (j : Nat) (u : Value), (opr (opT.getD k default))[j]? = some u → w.cell? ⟨0, k * 3 + j, none⟩ = some u := fun j u hu => by
  have hk' : k < opT.length := by rw [opT_len]; exact hk
  refine h.ops _ _ (opL_row k hk' j u ?_)
  rw [List.getD_eq_getElem?_getD, List.getElem?_eq_getElem hk'] at hu
  exact hu
theorem find_yes (base : Nat) (s : ByteArray) (k : Nat) (w0 : World) (h : opIx s = some k) (hG : Gv base w0) (hb : base ≤ w0.heap.size) : Does Tryz.prog 38 #[.string s] w0 (fun r w' => r = .int .i64 (k : Int) ∧ Nw w0 w') := by
  have := find_walk base s w0 hG hb
  unfold opZ at this
  rw [h] at this
  exact this
theorem find_no (base : Nat) (s : ByteArray) (w0 : World) (h : opIx s = none) (hG : Gv base w0) (hb : base ≤ w0.heap.size) : Does Tryz.prog 38 #[.string s] w0 (fun r w' => r = .int .i64 (-1) ∧ Nw w0 w') := by
  have := find_walk base s w0 hG hb
  unfold opZ at this
  rw [h] at this
  exact this
theorem takes_no (base : Nat) (s : ByteArray) (w0 : World) (hno : opIx s = none) (hG : Gv base w0) (hb : base ≤ w0.heap.size) : Does Tryz.prog 44 #[.string s] w0 (fun r w' => r = .tuple #[.bool false, .bool false, .bool false] ∧ Nw w0 w') := by
  refine fn_of (n := 18) (args := [.string s]) Tryz.func44 rfl rfl rfl ?_
  refine W_seq ?_
  refine W_region ?_
  refine L_r (r_ab rfl) ?_
  refine L_r (r_ab rfl) ?_
  refine L_r (r_ab rfl) ?_
  refine L_nil ?_
  refine W_seq ?_
  refine W_region ?_
  refine L_r (r_ms rfl) ?_
  refine L_call (.plain rfl) rfl rfl (r_call Tryz.func38 rfl rfl rfl (by rfl)) (find_no base s _ hno hG hb) ?_
  rintro v7 w1 ⟨rfl, c1⟩
  have hz1 := c1.size
  refine L_r (r_ai rfl) ?_
  refine L_nil ?_
  refine W_seq ?_
  refine W_seq ?_
  refine W_region ?_
  refine L_r (r_mi rfl) ?_
  refine L_r (r_lss rfl rfl) ?_
  refine L_nil ?_
  refine W_if rfl (fun h9 => ?_) (fun h9 => ?_)
  · refine W_seq ?_
    refine W_region ?_
    refine L_r (r_ab rfl) ?_
    refine L_r (r_ab rfl) ?_
    refine L_r (r_ab rfl) ?_
    refine L_nil ?_
    refine W_ret ?_
    refine ret3 (u := .bool _) (v := .bool _) (x := .bool _) rfl rfl rfl rfl ?_
    exact ⟨rfl, Ch.au⟩
  · exact absurd (by decide) h9
theorem takes_yes (base : Nat) (s : ByteArray) (k : Nat) (o : ByteArray × Bool × Bool) (w0 : World) (hk : opIx s = some k) (hkl : k < 42) (ho : ∀ (w : World), Gv base w → ∀ (j : Nat) (u : Value), (opr o)[j]? = some u → w.cell? ⟨0, k * 3 + j, none⟩ = some u) (hG : Gv base w0) (hb : base ≤ w0.heap.size) : Does Tryz.prog 44 #[.string s] w0 (fun r w' => r = .tuple #[.bool o.2.1, .bool o.2.2, .bool true] ∧ Nw w0 w') := by
  refine fn_of (n := 18) (args := [.string s]) Tryz.func44 rfl rfl rfl ?_
  refine W_seq ?_
  refine W_region ?_
  refine L_r (r_ab rfl) ?_
  refine L_r (r_ab rfl) ?_
  refine L_r (r_ab rfl) ?_
  refine L_nil ?_
  refine W_seq ?_
  refine W_region ?_
  refine L_r (r_ms rfl) ?_
  refine L_call (.plain rfl) rfl rfl (r_call Tryz.func38 rfl rfl rfl (by rfl)) (find_yes base s k _ hk hG hb) ?_
  rintro v7 w1 ⟨rfl, c1⟩
  have hz1 := c1.size
  have hGw := fun W (c : Nw w0 W) => ho W (hG.nw c hb)
  refine L_r (r_ai rfl) ?_
  refine L_nil ?_
  refine W_seq ?_
  refine W_seq ?_
  refine W_region ?_
  refine L_r (r_mi rfl) ?_
  refine L_r (r_lss rfl rfl) ?_
  refine L_nil ?_
  refine W_if rfl (fun h9 => ?_) (fun h9 => ?_)
  · omega
  · refine W_skip ?_
    refine W_seq ?_
    refine W_still (by kernel_rfl) (by kernel_rfl) (fun w2 c2 hs2 => ?_)
    refine H_r (r_mi rfl) ?_
    refine H_r (r_idxarr Tryz.underlying60 (show _ = some 3 from rfl) rfl rfl (by omega) (by omega) (by conv => lhs; (try simp only [Nat.mul_one, Nat.zero_add, Int.toNat_natCast, Int.toNat_zero, Int.reduceToNat, Nat.reduceMul, Nat.reduceAdd]))) ?_
    refine H_r (r_fieldb Tryz.underlying59 rfl (show _ = some 1 from rfl) rfl rfl rfl) ?_
    refine H_r (r_loadG rfl rfl (by first | exact hGw _ Ch.au 1 _ rfl | exact hGw _ Ch.au 2 _ rfl)) ?_
    refine H_r (r_mi rfl) ?_
    refine H_r (r_idxarr Tryz.underlying60 (show _ = some 3 from rfl) rfl rfl (by omega) (by omega) (by conv => lhs; (try simp only [Nat.mul_one, Nat.zero_add, Int.toNat_natCast, Int.toNat_zero, Int.reduceToNat, Nat.reduceMul, Nat.reduceAdd]))) ?_
    refine H_r (r_fieldb Tryz.underlying59 rfl (show _ = some 1 from rfl) rfl rfl rfl) ?_
    refine H_r (r_loadG rfl rfl (by first | exact hGw _ Ch.au 1 _ rfl | exact hGw _ Ch.au 2 _ rfl)) ?_
    refine H_r (r_ab rfl) ?_
    refine H_r (r_ab rfl) ?_
    refine H_r (r_ab rfl) ?_
    refine H_nil ?_
    refine W_ret ?_
    refine ret3 (u := .bool _) (v := .bool _) (x := .bool _) rfl rfl rfl rfl ?_
    exact ⟨rfl, Ch.au⟩
theorem takes_walk (base : Nat) (s : ByteArray) (w0 : World) (hG : Gv base w0) (hb : base ≤ w0.heap.size) : Does Tryz.prog 44 #[.string s] w0 (fun r w' => r = .tuple #[.bool (takesF s).1, .bool (takesF s).2.1, .bool (takesF s).2.2] ∧ Nw w0 w') := by
  cases h : opIx s with
  | none =>
    have e : takesF s = (false, false, false) := by unfold takesF; rw [h]
    rw [e]
    exact takes_no base s w0 h hG hb
  | some k =>
    have e : takesF s = ((opT.getD k default).2.1, (opT.getD k default).2.2, true) := by unfold takesF; rw [h]
    rw [e]
    exact takes_yes base s k (opT.getD k default) w0 h (opIx_lt h) (fun w hw => gv_row hw (opIx_lt h)) hG hb
theorem opA_row (i : Nat) (h : i < 42) : ∃ o, opT[i]? = some o ∧ opL.toArray.extract (i * 3) (i * 3 + 3) = #[.string o.1, .bool o.2.1, .bool o.2.2] := by
  have h' : i < opT.length := by rw [opT_len]; exact h
  refine ⟨opT[i], List.getElem?_eq_getElem h', ?_⟩
  have hr := opL_row i h'
  have hl := opL_len
  apply Array.ext
  · simp [hl]; omega
  · intro j h1 h2
    have hj : j < 3 := by simpa using h2
    have e1 : (opL.toArray.extract (i * 3) (i * 3 + 3))[j]? = opL[i * 3 + j]? := by
      rw [Array.getElem?_extract]
      simp [hl]; omega
    have e2 : opL[i * 3 + j]? = (#[Value.string opT[i].1, .bool opT[i].2.1, .bool opT[i].2.2] : Array Value)[j]? := by
      rcases j with _ | _ | _ | j
      · exact hr 0 _ rfl
      · exact hr 1 _ rfl
      · exact hr 2 _ rfl
      · omega
    have := e1.trans e2
    rw [Array.getElem?_eq_getElem h1, Array.getElem?_eq_getElem h2] at this
    injection this
def nmL : List Value := opT.map fun o => .string o.1
theorem nm_take (i : Nat) (o : ByteArray × Bool × Bool) (h : opT[i]? = some o) : (opT.take (i + 1)).map (fun o => Value.string o.1) = (opT.take i).map (fun o => Value.string o.1) ++ [.string o.1] := by
  obtain ⟨hi, e⟩ := List.getElem?_eq_some_iff.1 h
  rw [List.take_succ_eq_append_getElem hi, List.map_append, e]; rfl
theorem str_info : (Tryz.prog.info? 9).map (fun i => (i.zero, i.size, i.bytes)) = some (some (.string ByteArray.empty), 1, 16) := rfl
theorem ops_walk (base : Nat) (w0 : World) (hG : Gv base w0) (hb : base ≤ w0.heap.size) : Does Tryz.prog 21 #[] w0 (fun r w' => ∃ v, r = v ∧ Ow w' w0.heap.size 9 1 v 42 nmL ∧ Nw w0 w') := by
  refine fn_of (n := 15) (args := []) Tryz.func21 rfl rfl rfl ?_
  refine W_seq ?_
  refine W_region ?_
  refine L_r (r_av) ?_
  refine L_nil ?_
  refine W_seq ?_
  refine W_region ?_
  refine L_r (r_av) ?_
  refine L_nil ?_
  refine W_seq ?_
  refine W_seq ?_
  refine W_region ?_
  refine L_r (r_loadrowG (us := opL) Tryz.underlying60 rfl rfl rfl rfl (by exact (hG.nw Ch.au hb).ops)) ?_
  obtain ⟨A, hA⟩ : ∃ A, A = opL.toArray := ⟨_, rfl⟩
  rw [← hA]
  have hAr : ∀ i, i < 42 → ∃ o, opT[i]? = some o ∧ A.extract (i * 3) (i * 3 + 3) = #[.string o.1, .bool o.2.1, .bool o.2.2] := by rw [hA]; exact opA_row
  clear hA
  have hnl : nmL = (opT.take 42).map (fun o => Value.string o.1) := by rw [show 42 = opT.length from opT_len.symm, List.take_length]; rfl
  have hnt := nm_take
  rw [hnl]
  clear hnl
  generalize opT = T at hAr hnt ⊢
  refine L_r (r_mi rfl) ?_
  refine L_nil ?_
  refine W_block ?_
  refine W_loopF [4] (fun mz_ f W => ∃ (i : Nat) (v : Value), f 5 = .int .i64 i ∧ f 1 = v ∧ (i ≤ 42 ∧ Ow W w0.heap.size 9 1 v i ((T.take i).map (fun o => Value.string o.1)) ∧ Nw w0 W) ∧ mz_ = 42 - i) ?_ ?_
  · refine ⟨_, 0, .slice none 0 0, rfl, rfl, ?_, rfl⟩
    exact ⟨by omega, Ow.nil _ _ _ _, Ch.au⟩
  rintro m0 g0 w1 ⟨i, v, hf5, hf1, hR0, rfl⟩
  refine W_as 5 hf5 rfl ?_
  refine W_as 1 hf1 rfl ?_
  clear hf5 hf1
  obtain ⟨hi, hO, hnw⟩ := hR0
  have hz := hnw.size
  obtain ⟨q, hq⟩ : ∃ x, x = v := ⟨_, rfl⟩
  refine W_seq ?_
  refine W_region ?_
  refine L_r (r_lss rfl rfl) ?_
  refine L_nil ?_
  refine W_seq ?_
  refine W_if rfl (fun h6 => ?_) (fun h6 => ?_)
  · obtain ⟨o, hoi, hoe⟩ := hAr i (by omega)
    refine W_skip ?_
    refine W_seq ?_
    refine W_block ?_
    refine W_seq ?_
    refine W_region ?_
    refine L_r (r_indexA (row := #[_, _, _]) Tryz.underlying60 (show _ = some 3 from rfl) Tryz.underlying59 rfl rfl rfl (by omega) (by omega) (by exact hoe)) ?_
    refine L_new (.plain rfl) rfl rfl (r_alloca rfl) (fun w2 b3 hb3 eb2 hs2 c2 => ?_)
    refine L_storerow (.plain rfl) rfl rfl Bk.au (by first | rfl | (simp; done) | assumption) (by first | rfl | assumption) (by first | rfl | (simp [Value.oneCell']; done) | assumption) (fun w3 hb3 hs3 c3 => ?_)
    refine L_nil ?_
    refine W_region ?_
    refine L_r (r_mv) ?_
    refine L_r (r_fieldb Tryz.underlying59 rfl (show _ = some 1 from rfl) rfl rfl (show _ = 0 from rfl)) ?_
    refine L_r (r_lb rfl rfl) ?_
    refine L_build1 [.string _] Tryz.underlying49 rfl rfl rfl (.plain rfl) rfl (by rfl) (by rfl) (by rfl) (fun b11 w4 hb11 hv11 eb4 hs4 c4 => ?_)
    refine L_apow Tryz.underlying49 str_info rfl (by decide) (.plain rfl) rfl (by conv => lhs; whnf) (by conv => lhs; whnf) Ow.au Sl.au (by intro y hy; simp at hy; subst hy; rfl) (by unfold maxLen; omega) (by omega) (by omega) (fun v12 w5 ho12 c5 hob12 => ?_)
    have hz5 := c5.size
    clear hq
    obtain ⟨q, hq⟩ : ∃ x, x = v12 := ⟨_, rfl⟩
    refine L_r (r_av) ?_
    refine L_nil ?_
    refine W_region ?_
    refine L_r (r_add rfl rfl (by first | exact wr_i64 (by omega) | rfl)) ?_
    refine L_r (r_mi rfl) ?_
    refine L_nil ?_
    refine ⟨⟨fx2, trivial⟩, _, ?_, i + 1, q, rfl, (by exact hq.symm), ?_, rfl⟩
    · omega
    subst hq
    exact ⟨by omega, by rw [hnt i o hoi]; exact ho12, Ch.au⟩
  · refine W_exit ?_
    repeat (first | refine blk_hit ?_ | refine blk_miss rfl ?_)
    refine W_seq ?_
    refine W_region ?_
    refine L_r (r_mv) ?_
    refine L_r (r_av) ?_
    refine L_nil ?_
    refine W_ret ?_
    refine ret1 rfl (by conv => lhs; whnf) ?_
    have e : i = 42 := by omega
    subst e
    exact ⟨v, rfl, hO, Ch.au⟩
end Go.Proofs.YtioonbfinnigpaaGreatDoor

