/- Parts of the proof (Scr13, Scr14, Scr15, Scr16, Scr17, Ifc, Scr18, Scr19, Scr20, Scr21, Scr22). -/
import Derived.Test.YtgmeojpekdekeaaGreatDoorMSe
import Derived.Shelf.Pu.ToError
namespace Go.Proofs.YtgmeojpekdekeaaGreatDoor
open Go Go.RowKit
set_option linter.unusedVariables false
set_option linter.unusedSimpArgs false
set_option maxRecDepth 100000
theorem sstr_info : (Tryz.prog.info? 9).map (fun i => (i.zero, i.size, i.bytes)) = some (some (.string ByteArray.empty), 1, 16) := rfl
theorem lput_walk (base p : Nat) (v : Value) (l : List ByteArray) (s : ByteArray) (w0 : World) (hp : Bk w0 p #[v] 78) (ho : Ow w0 base 9 1 v l.length (txs l)) (hb : base ≤ w0.heap.size) (hpb : v.ownBlock ≠ some p) (hl : l.length ≤ 1000) : Does Tryz.prog 66 #[.string s, .pointer (some ⟨p, 0, none⟩)] w0 (fun r w' => ∃ v', r = .tuple #[] ∧ Bk w' p #[v'] 78 ∧ Ow w' base 9 1 v' (l ++ [s]).length (txs (l ++ [s])) ∧ (∀ j, v'.ownBlock = some j → v.ownBlock = some j ∨ w0.heap.size ≤ j) ∧ w0.heap.size ≤ w'.heap.size ∧ Ch (fun j => j = p ∨ v.ownBlock = some j) w0 w') := by
  have hlp := hp.lt
  refine fn_of (n := 7) (args := [.string s, .pointer (some ⟨p, 0, none⟩)]) Tryz.func66 rfl rfl rfl (W_region (L_r (r_lb rfl rfl) (L_r (r_ms rfl) ?_)))
  refine L_build1 [.string _] Tryz.underlying78 rfl rfl rfl (.plain rfl) rfl (by rfl) (by rfl) (by rfl) (fun b5 w1 hb5 hv5 eb1 hs1 c1 => ?_)
  refine L_apow Tryz.underlying78 sstr_info rfl (by decide) (.plain rfl) rfl (by conv => lhs; whnf) (by conv => lhs; whnf) Ow.au Sl.au (by intro y hy; simp at hy; subst hy; rfl) (by unfold maxLen; omega) (by omega) (by omega) (fun v6 w2 ho6 c2 hob6 => ?_)
  have hz2 := c2.size
  have hone6 := ow_one ho6
  have hn6 : v6.ownBlock ≠ some p := fun e => by rcases hob6 _ e with h | h; exact hpb h; omega
  refine L_set (.plain rfl) rfl Bk.au (r_store rfl rfl (by conv => lhs; whnf) (by first | rfl | exact ow_one (by assumption) | exact own_one (by assumption) | exact sl_one (by assumption)) Bk.au (by first | decide | (simp; done) | omega)) (fun w3 hb3 hs3 c3 => ?_)
  try simp only [List.setIfInBounds_toArray, List.set_cons_zero, List.set_cons_succ] at hb3
  refine L_nil ?_
  refine ret0 rfl  ?_
  refine ⟨v6, rfl, Bk.au, by rw [List.length_append, txs_append]; (exact Ow.au), fun j hj => ?_, by omega, Ch.au⟩
  rcases hob6 j hj with h | h
  · exact .inl h
  · exact .inr (by omega)
end Go.Proofs.YtgmeojpekdekeaaGreatDoor

namespace Go.Proofs.YtgmeojpekdekeaaGreatDoor
open Go Go.RowKit
set_option linter.unusedVariables false
set_option linter.unusedSimpArgs false
set_option maxRecDepth 100000
def linA (d : Dd) (a : Nat) : List ByteArray := d.kind :: ((bs (hasF d.kind)).take a).flatMap fun c => (letB d c).map sb
theorem linA_succ (d : Dd) (a : Nat) (h : a < (hasF d.kind).size) : linA d (a + 1) = linA d a ++ (letB d (bat (hasF d.kind) a)).map sb := by
  have hl : a < (bs (hasF d.kind)).length := h
  unfold linA bat
  rw [List.take_succ_eq_append_getElem hl, List.flatMap_append]
  simp [List.getD_eq_getElem?_getD, List.getElem?_eq_getElem hl]
theorem linA_all (d : Dd) : linA d (hasF d.kind).size = d.kind :: (parB d).map sb := by
  have e : (bs (hasF d.kind)).take (hasF d.kind).size = bs (hasF d.kind) := List.take_of_length_le (Nat.le_refl _)
  unfold linA parB
  rw [e, List.map_flatMap]
/-! ### texts joined -/
def ljoinS (l : List ByteArray) (s : ByteArray) : ByteArray := ⟨(Lib.join (l.map (·.data.toList)) s.data.toList).toArray⟩
theorem ljoinS_size (l : List ByteArray) (s : ByteArray) : (ljoinS l s).size = (Lib.join (l.map (·.data.toList)) s.data.toList).length := by
  unfold ljoinS
  show (List.toArray _).size = _
  rw [List.size_toArray]
theorem lbx5 : Builder.Extra Tryz.prog Tryz.laysJoin_ren :=
  { sizeBuilder := by kernel_rfl
    liesBuilder := by kernel_rfl
    t5 := Tryz.underlying5
    a5 := Tryz.isAgg5
    z5 := Tryz.sizeOf5
    v5 := Tryz.zeroValue5
    infoByte := by kernel_rfl
    cellsByte := by kernel_rfl
    sizeByte := by kernel_rfl
    neB5 := by decide }
theorem ljoin_use (v : Value) (l : List ByteArray) (s : ByteArray) (w : World) (hv : Sl w v 1 l.length (txs l)) (hl : l.length ≤ 140737488355328) (hj : (ljoinS l s).size ≤ 140737488355328) :
    Does Tryz.prog 67 #[v, .string s] w (fun r w' => r = .string (ljoinS l s) ∧ Nw w w') := by
  rw [ljoinS_size] at hj
  have key : Calls Tryz.prog 67 #[v, .string s] w fun e w' => e = .returned (.string (ljoinS l s)) ∧ Below w.heap.size w w' := by
    obtain ⟨h0, ⟨A0, rfl, hn⟩ | ⟨b, o, c, cs, t, rfl, hc, hr, hx⟩⟩ := id hv
    ·
     have e : l = [] := List.length_eq_zero_iff.1 hn
     subst e
     exact (Any.strings_Join_none Tryz.laysJoin lbx5 A0 0 s w).mono fun e w' ⟨he, hw⟩ => ⟨he, hw ▸ Below.refl _ _⟩
    · exact Any.strings_Join Tryz.laysJoin lbx5 b o c l s w (fun j x hx2 => by
        have hu : (txs l)[j]? = some (.string x) := by unfold txs; rw [List.getElem?_map, hx2]; rfl
        exact hv.cell hu) hr.lt hl hc hj
  exact Calls.mono key fun e w' ⟨he, hw⟩ => ⟨_, he, rfl, hw.os, hw.tape, hw.output, hw.size, fun i hi _ => hw.block i hi⟩
end Go.Proofs.YtgmeojpekdekeaaGreatDoor

namespace Go.Proofs.YtgmeojpekdekeaaGreatDoor
open Go Go.RowKit
set_option linter.unusedVariables false
set_option linter.unusedSimpArgs false
set_option maxRecDepth 100000
/-! ### the words so far -/
def LnAt (W : World) (base b5 : Nat) (L : List ByteArray) : Prop := ∃ v, Bk W b5 #[v] 78 ∧ Ow W base 9 1 v L.length (txs L)
theorem ow_its {w : World} {base e sz n bi a : Nat} {v : Value} {xs : List Value} {s : ByteArray} (h : Ow w base e sz v n xs) (hi : Its w bi s a) : v.ownBlock ≠ some bi := by
  intro e1
  obtain ⟨cs, fr, hb, _⟩ := h.bk e1
  unfold Its at hi
  rw [hi] at hb
  cases hb
theorem its_tb {w w' : World} {b0 bi a : Nat} {s : ByteArray} {ts : List TypeId} (h : Its w bi s a) (c : Ch (Tb b0 w ts) w w') : Its w' bi s a :=
  Its.to h ⟨c.size, fun _ => c.blk bi (lt_of_block h) fun ⟨_, cs, t, fr, hb, _⟩ => by unfold Its at h; rw [h] at hb; cases hb⟩
theorem lput_at (base b5 : Nat) (L : List ByteArray) (s : ByteArray) (w0 : World) (h : LnAt w0 base b5 L) (h5 : base ≤ b5) (hb : base ≤ w0.heap.size) (hl : L.length ≤ 1000) :
    Does Tryz.prog 66 #[.string s, .pointer (some ⟨b5, 0, none⟩)] w0 (fun r w' => r = .tuple #[] ∧ LnAt w' base b5 (L ++ [s]) ∧ Ch (Tb base w0 [78, 9]) w0 w') := by
  obtain ⟨v, h1, h2⟩ := h
  have hne : v.ownBlock ≠ some b5 := by
    intro e
    obtain ⟨cs, hk⟩ := h2.bk e
    exact Bk.ne h1 hk (by decide) rfl
  refine Does.mono (lput_walk base b5 v L s w0 h1 h2 hb hne hl) ?_
  rintro r w' ⟨v', rfl, k1, k2, k3, k4, k5⟩
  refine ⟨rfl, ⟨v', k1, k2⟩, k5.mono fun i hi he => ?_⟩
  rcases he with rfl | he
  ·
   obtain ⟨fr, hb1, _⟩ := h1
   exact ⟨h5, _, _, _, hb1, by simp⟩
  ·
   obtain ⟨cs, fr, hb1, _⟩ := h2.bk he
   exact ⟨ow_base h2 he, _, _, _, hb1, by simp⟩
/-! ### what the letters stand for -/
theorem u8_of {c : UInt8} {n : Nat} (hn : n < 256) (h : (c.toNat : Int) = (n : Int)) : c = UInt8.ofNat n := (ofn_ne c n hn).1 (by omega)
theorem letS (d : Dd) {c : UInt8} (h : (c.toNat : Int) = 115) : (letB d c).map sb = [sb (Lib.itoa d.side)] := by rw [u8_of (n := 115) (by omega) h]; rfl
theorem letO (d : Dd) {c : UInt8} (h : (c.toNat : Int) = 111) : (letB d c).map sb = [sb (Lib.decDigits d.obj)] := by rw [u8_of (n := 111) (by omega) h]; rfl
theorem letM (d : Dd) {c : UInt8} (h : (c.toNat : Int) = 109) : (letB d c).map sb = [d.method] := by rw [u8_of (n := 109) (by omega) h]; exact congrArg (fun x => [x]) (sb_bs _)
theorem letN (d : Dd) {c : UInt8} (h : (c.toNat : Int) = 110) : (letB d c).map sb = [sb (Lib.itoa d.n)] := by rw [u8_of (n := 110) (by omega) h]; rfl
theorem letT (d : Dd) {c : UInt8} (h : (c.toNat : Int) = 116) : (letB d c).map sb = [sb (Lib.itoa d.at')] := by rw [u8_of (n := 116) (by omega) h]; rfl
theorem letR (d : Dd) {c : UInt8} (h : (c.toNat : Int) = 114) : (letB d c).map sb = [sb (Lib.itoa d.ref)] := by rw [u8_of (n := 114) (by omega) h]; rfl
theorem letC (d : Dd) {c : UInt8} (h : (c.toNat : Int) = 99) : (letB d c).map sb = [d.cls] := by rw [u8_of (n := 99) (by omega) h]; exact congrArg (fun x => [x]) (sb_bs _)
theorem letX (d : Dd) {c : UInt8} (h : (c.toNat : Int) = 98) : (letB d c).map sb = [sb (hexB d.bytes)] := by rw [u8_of (n := 98) (by omega) h]; rfl
theorem letA (d : Dd) {c : UInt8} (h : (c.toNat : Int) = 97) : (letB d c).map sb = d.args.map fun v => sb (valB v) := by rw [u8_of (n := 97) (by omega) h]; exact List.map_map
/-! ### how long words are -/
theorem valB_200 {v : Va} (h : argP v) (hr : -9223372036854775808 ≤ v.n ∧ v.n ≤ 9223372036854775807) : (valB v).length ≤ 300 := by
  unfold valB
  have h1 := itoa_len hr
  split
  · omega
  ·
   split
   · split <;> decide
   ·
    split
    · rcases h with h | h | h | h <;> omega
    ·
     split
     ·
      have : (-9223372036854775808 : Int) ≤ v.ref ∧ v.ref ≤ 9223372036854775807 := by rcases h with h | h | h | h <;> omega
      have := itoa_len this
      simp only [List.length_cons]; omega
     · decide
theorem letB_len {d : Dd} (h : chkD d) (hr : ranD d) (c : UInt8) : (letB d c).length ≤ 8 := by
  have := h.len
  unfold letB
  repeat' split
  all_goals first | (simp only [List.length_map]; omega) | (simp only [List.length_cons, List.length_nil]; omega)
theorem numP_ran {n : Int} {t : Prop} (h : numP n t) : -9223372036854775808 ≤ n ∧ n ≤ 9223372036854775807 := by rcases h with h | h <;> omega
theorem side_ran {d : Dd} (h : chkD d) : -9223372036854775808 ≤ d.side ∧ d.side ≤ 9223372036854775807 := by rcases h.side with h | h <;> omega
theorem meth_size {d : Dd} (h : chkD d) : d.method.size ≤ 32 := by
  by_cases k : hasC d.kind 109
  · exact (h.m1 k).1.2.1
  · rw [h.m0 k]; decide
theorem cls_size {d : Dd} (h : chkD d) : d.cls.size ≤ 32 := by
  by_cases k : hasC d.kind 99
  · exact (h.c1 k).1.2.1
  · rw [h.c0 k]; decide
theorem byt_size {d : Dd} (h : chkD d) : d.bytes.size ≤ 100 := by
  rcases h.bytes with k | k
  · rw [k]; decide
  · exact k.2
theorem letB_300 {d : Dd} (h : chkD d) (hr : ranD d) (c : UInt8) : ∀ l ∈ letB d c, l.length ≤ 300 := by
  have a1 := itoa_len (side_ran h)
  have a2 := digits_len d.obj hr.1
  have a3 := meth_size h
  have a4 := itoa_len (numP_ran h.n)
  have a5 := itoa_len (numP_ran h.at')
  have a6 := itoa_len (numP_ran h.ref)
  have a7 := cls_size h
  have a8 := hexB_len d.bytes
  have a9 := byt_size h
  have b3 := bs_length d.method
  have b7 := bs_length d.cls
  intro l hl
  unfold letB at hl
  repeat' split at hl
  all_goals first
    | (rw [List.mem_singleton] at hl; subst hl; omega)
    | (obtain ⟨v, hv, rfl⟩ := List.mem_map.1 hl; exact valB_200 (h.args v hv) (hr.2 v hv))
    | (cases hl)
theorem hasF_4 (k : ByteArray) : (bs (hasF k)).length ≤ 4 := by
  unfold hasF hasO
  cases hf : entT.find? fun e => decide (e.1 = k) with
  | none => decide
  | some e =>
    have key : ∀ e ∈ entT, (bs e.2).length ≤ 4 := by decide
    exact key e (List.mem_of_find?_eq_some hf)
theorem flat_len {X Y : Type} {f : X → List Y} {m : Nat} : ∀ l : List X, (∀ x ∈ l, (f x).length ≤ m) → (l.flatMap f).length ≤ l.length * m
  | [], _ => by simp
  | x :: l, h => by
    have h1 := h x List.mem_cons_self
    have h2 := flat_len l fun y hy => h y (List.mem_cons_of_mem _ hy)
    simp only [List.flatMap_cons, List.length_append, List.length_cons]
    rw [Nat.succ_mul]; omega
theorem linA_len {d : Dd} (h : chkD d) (hr : ranD d) (a : Nat) : (linA d a).length ≤ 33 := by
  unfold linA
  have h1 := flat_len (f := fun c => (letB d c).map sb) (m := 8) ((bs (hasF d.kind)).take a) fun c _ => by rw [List.length_map]; exact letB_len h hr c
  have h2 := hasF_4 d.kind
  rw [List.length_take] at h1
  simp only [List.length_cons]
  omega
theorem kind_7 {d : Dd} (h : chkD d) : d.kind.size ≤ 7 := by
  obtain ⟨e, he, hk⟩ := kinds h.kind
  have key : ∀ e ∈ entT, e.1.size ≤ 7 := by decide
  rw [hk]; exact key e he
theorem parB_300 {d : Dd} (h : chkD d) (hr : ranD d) : ∀ l ∈ bs d.kind :: parB d, l.length ≤ 300 := by
  intro l hl
  rcases List.mem_cons.1 hl with rfl | hl
  · rw [bs_length]; have := kind_7 h; omega
  ·
   obtain ⟨c, _, hc⟩ := List.mem_flatMap.1 hl
   exact letB_300 h hr c l hc
theorem parB_len {d : Dd} (h : chkD d) (hr : ranD d) : (parB d).length ≤ 32 := by
  have h1 := flat_len (f := letB d) (m := 8) (bs (hasF d.kind)) fun c _ => letB_len h hr c
  have h2 := hasF_4 d.kind
  unfold parB; omega
theorem lens_le {m : Nat} : ∀ l : List (List UInt8), (∀ x ∈ l, x.length ≤ m) → Lib.lens l ≤ l.length * m
  | [], _ => by simp [Lib.lens]
  | x :: l, h => by
    have h1 := h x List.mem_cons_self
    have h2 := lens_le l fun y hy => h y (List.mem_cons_of_mem _ hy)
    simp only [Lib.lens, List.map_cons, List.sum_cons, List.length_cons] at h2 ⊢
    rw [Nat.succ_mul]; omega
theorem bodB_len {d : Dd} (h : chkD d) (hr : ranD d) : (bodB d).length ≤ 20000 := by
  have h1 := lens_le _ (parB_300 h hr)
  have h2 := parB_len h hr
  unfold bodB
  rw [Lib.join_length]
  simp only [List.length_cons, List.length_nil] at h1 ⊢
  omega
theorem linD_len {d : Dd} (h : chkD d) (hr : ranD d) : (linD d).length ≤ 20001 := by
  have := bodB_len h hr
  unfold linD
  rw [List.length_append, List.length_singleton]; omega
theorem ljoin_bod (d : Dd) : ljoinS (linA d (hasF d.kind).size) { data := #[32] } = sb (bodB d) := by
  rw [linA_all]
  unfold ljoinS bodB
  have e : (d.kind :: (parB d).map sb).map (fun x => x.data.toList) = bs d.kind :: parB d := by
    rw [List.map_cons, List.map_map]
    congr 1
    exact (List.map_congr_left fun x _ => bs_sb x).trans (List.map_id _)
  rw [e]
  rfl
end Go.Proofs.YtgmeojpekdekeaaGreatDoor

namespace Go.Proofs.YtgmeojpekdekeaaGreatDoor
open Go Go.RowKit
set_option linter.unusedVariables false
set_option linter.unusedSimpArgs false
set_option maxRecDepth 100000
theorem linA_args (d : Dd) (a j : Nat) (h : j < d.args.length) : (linA d a ++ (d.args.take j).map fun v => sb (valB v)) ++ [sb (valB d.args[j])] = linA d a ++ (d.args.take (j + 1)).map fun v => sb (valB v) := by
  rw [List.append_assoc, List.take_succ_eq_append_getElem h, List.map_append]; rfl
set_option maxHeartbeats 4000000 in
theorem line_walk (base : Nat) (x : DD) (w0 : World) (hV : Sv base w0) (hb : base ≤ w0.heap.size) (hx : x.ok w0) (hk : chkD x.d) (hr : ranD x.d) : Does Tryz.prog 34 #[x.v] w0 (fun r w' => r = .string (sb (linD x.d)) ∧ Nw w0 w') := by
  obtain ⟨s, hs⟩ : ∃ s, s = hasF x.d.kind := ⟨_, rfl⟩
  have hsl : Sl w0 x.va 4 x.d.args.length (cellsVa x.d.args) := hx
  have hbs := byt_size hk
  have hal := hk.len
  have hll := bodB_len hk hr
  have hlz := sb_size (bodB x.d)
  have e10 : ({ data := #[10] } : ByteArray).size = 1 := rfl
  have hlA := fun a => linA_len hk hr a
  refine fn_of (n := 98) (args := [x.v]) Tryz.func34 rfl rfl rfl (W_seq (W_region ?_))
  refine L_new (.plain rfl) rfl rfl (r_boxa rfl) (fun w1 b1 hb1 eb1 hs1 c1 => (L_r (r_as rfl) (L_nil (W_seq (W_region ?_)))))
  refine L_r (r_fieldb Tryz.underlying29 rfl (show _ = some 1 from rfl) rfl rfl (show _ = 0 from rfl)) (L_r (r_lb rfl rfl) ?_)
  refine L_call (.plain rfl) rfl rfl (r_call Tryz.func18 rfl rfl rfl (by rfl)) (sfind_walk base x.d.kind _ (hV.nw Ch.au hb) (by omega)) ?_
  rintro v14 w2 ⟨rfl, c2⟩
  have hz2 := c2.size
  rw [← hs]
  refine L_r (r_mv) (L_r (r_ext2_0 rfl) (L_r (r_ext2_1 rfl) (L_r (r_as rfl) (L_r (r_ab rfl) (L_nil (W_seq (W_region ?_)))))))
  refine L_r (r_fieldb Tryz.underlying29 rfl (show _ = some 1 from rfl) rfl rfl (show _ = 0 from rfl)) (L_r (r_lb rfl rfl) ?_)
  refine L_build1o [.string _] Tryz.underlying78 rfl rfl rfl (.plain rfl) rfl (by rfl) (by rfl) (by rfl) (fun v19 w3 ho19 eb3 hs3 c3 => ?_)
  refine L_new (.plain rfl) rfl rfl (r_alloc1 rfl rfl) (fun w4 b5 hb5 eb4 hs4 c4 => ?_)
  refine L_set (.plain rfl) rfl Bk.au (r_store rfl rfl (by conv => lhs; whnf) (by first | rfl | exact ow_one (by assumption) | exact own_one (by assumption) | exact sl_one (by assumption)) Bk.au (by first | decide | (simp; done) | omega)) (fun w5 hb5 hs5 c5 => ?_)
  try simp only [List.setIfInBounds_toArray, List.set_cons_zero, List.set_cons_succ] at hb5
  refine L_nil (W_seq (W_region ?_))
  refine L_r (r_funcL (l1 := []) (l2 := [.pointer _]) rfl rfl) (L_r (r_av) (L_nil (W_seq (W_seq (W_region (L_r (r_ms rfl) ?_))))))
  refine L_ranges Tryz.underlying9 (.plain rfl) rfl rfl (fun w6 b22 hit22 eb6 hs6 c6 => (L_nil (W_block ?_)))
  refine W_loopF [1, 5, 6, 22] (fun mz_ f W => ∃ (a : Nat), True ∧ (a ≤ s.size ∧ Its W b22 s a ∧ Bk W b1 x.row 29 ∧ LnAt W w0.heap.size b5 (linA x.d a) ∧ Nw w0 W) ∧ mz_ = s.size - a) ?_ ?_
  ·
   refine ⟨_, 0, trivial, ?_, rfl⟩
   exact ⟨by omega, Its.au, Bk.au, ⟨_, Bk.au, Ow.mono (Ow.to (Ow.of ho19) (fun i hi => Sm.au)) (by omega)⟩, Ch.au⟩
  rintro m0 g0 w7 ⟨a, -, hR0, rfl⟩
  obtain ⟨ha, hit, hk1, ⟨v, hk5, hOw⟩, hnw⟩ := hR0
  have hz := hnw.size
  have hv22 := ow_its hOw hit
  have hlk := hlA a
  refine W_seq (W_region ?_)
  refine L_nexts (.plain rfl) rfl rfl Its.au (fun hall23 => ?_) (fun w8 hin23 hit23 hs8 c8 => ?_)
  ·
   refine L_r (r_ext1_0 rfl) (L_nil (W_seq ?_))
   refine W_false rfl ?_
   refine W_exit ?_
   repeat (first | refine blk_hit ?_ | refine blk_miss rfl ?_)
   refine W_seq (W_region ?_)
   have hae : a = s.size := by omega
   subst hae
   refine L_r (r_lb rfl rfl) ?_
   refine L_call (.plain rfl) rfl rfl (r_call Tryz.func67 rfl rfl rfl (by rfl)) (ljoin_use v (linA x.d s.size) _ _ (Ow.sl Ow.au) (by have := hlA s.size; omega) (by rw [hs, ljoin_bod, hlz]; omega)) ?_
   rintro v96 w9 ⟨rfl, c9⟩
   have hz9 := c9.size
   rw [hs, ljoin_bod]
   refine L_r (r_adds rfl rfl (by first | omega | (simp only [ByteArray.size_append]; omega))) (L_r (r_as rfl) (L_nil (W_ret ?_)))
   refine ret1 (v := .string _) rfl rfl ?_
   refine ⟨congrArg Value.string ?_, Ch.au⟩
   unfold linD
   rw [sb_append]
   rfl
  ·
   refine L_r (r_ext3_0 rfl) (L_nil (W_seq ?_))
   refine W_true rfl (W_skip (W_block (W_seq (W_region (L_r (r_ext3_2 rfl) ?_)))))
   have hls : (bat s a).toNat ∈ onlyLs := by rw [hs]; exact hasF_ls x.d.kind a (by rw [← hs]; exact hin23)
   have hda := dec_asc s a hin23 (onlyLs_lt hls)
   rw [hda]
   rw [hda] at hit23
   refine L_r (r_ai rfl) (L_nil (W_seq (W_region (L_r (r_mi rfl) (L_nil (W_block (W_seq (W_region ?_))))))))
   refine L_r (r_eql rfl rfl) (L_r (r_ab rfl) (L_nil ?_))
   refine W_if rfl (fun h27 => ?_) (fun h27 => ?_)
   ·
    refine W_region (L_r (r_mv) ?_)
    refine L_r (r_fieldb Tryz.underlying29 rfl (show _ = some 1 from rfl) rfl rfl (show _ = 1 from rfl)) (L_r (r_lb rfl rfl) ?_)
    refine L_call (.plain rfl) rfl rfl (r_call Tryz.func39 rfl rfl rfl (by rfl)) (sitoa_walk base x.d.side _ (side_ran hk) (hV.nw Ch.au hb) (by omega)) ?_
    rintro v32 w10 ⟨rfl, c10⟩
    have hz10 := c10.size
    refine L_call (.plain rfl) rfl rfl (r_call Tryz.func66 rfl rfl rfl (by rfl)) (lput_at w0.heap.size b5 (linA x.d a) _ _ ⟨v, Bk.au, Ow.au⟩ (by omega) (by omega) (by omega)) ?_
    rintro v33 w11 ⟨rfl, hln11, c11⟩
    have hz11 := c11.size
    have hit11 := its_tb (show Its w10 b22 s (a + 1) from Its.au) c11
    refine L_nil ?_
    refine ⟨⟨fx2, fx2, fx2, fx2, trivial⟩, _, ?_, a + 1, trivial, ?_, rfl⟩
    · omega
    refine ⟨by omega, Its.au, Bk.au, ?_, Ch.au⟩
    rw [linA_succ x.d a (by rw [← hs]; omega), ← hs]
    first
    | (rw [letS x.d (by assumption)]; assumption)
    | (rw [letO x.d (by assumption)]; assumption)
    | (rw [letM x.d (by assumption)]; assumption)
    | (rw [letN x.d (by assumption)]; assumption)
    | (rw [letT x.d (by assumption)]; assumption)
    | (rw [letR x.d (by assumption)]; assumption)
    | (rw [letC x.d (by assumption)]; assumption)
    | (rw [letX x.d (by assumption)]; assumption)
    | (rw [letA x.d (by assumption)]; assumption)
   ·
    refine W_seq (W_region (L_r (r_eql rfl rfl) (L_r (r_ab rfl) (L_nil ?_))))
    refine W_if rfl (fun h34 => ?_) (fun h34 => ?_)
    ·
     refine W_region (L_r (r_mv) ?_)
     refine L_r (r_fieldb Tryz.underlying29 rfl (show _ = some 1 from rfl) rfl rfl (show _ = 2 from rfl)) (L_r (r_lb rfl rfl) ?_)
     refine L_call (.plain rfl) rfl rfl (r_call Tryz.func40 rfl rfl rfl (by rfl)) (fuint_walk base x.d.obj _ hr.1 (hV.nw Ch.au hb) (by omega)) ?_
     rintro v39 w12 ⟨rfl, c12⟩
     have hz12 := c12.size
     refine L_call (.plain rfl) rfl rfl (r_call Tryz.func66 rfl rfl rfl (by rfl)) (lput_at w0.heap.size b5 (linA x.d a) _ _ ⟨v, Bk.au, Ow.au⟩ (by omega) (by omega) (by omega)) ?_
     rintro v40 w13 ⟨rfl, hln13, c13⟩
     have hz13 := c13.size
     have hit13 := its_tb (show Its w12 b22 s (a + 1) from Its.au) c13
     refine L_nil ?_
     refine ⟨⟨fx2, fx2, fx2, fx2, trivial⟩, _, ?_, a + 1, trivial, ?_, rfl⟩
     · omega
     refine ⟨by omega, Its.au, Bk.au, ?_, Ch.au⟩
     rw [linA_succ x.d a (by rw [← hs]; omega), ← hs]
     first
     | (rw [letS x.d (by assumption)]; assumption)
     | (rw [letO x.d (by assumption)]; assumption)
     | (rw [letM x.d (by assumption)]; assumption)
     | (rw [letN x.d (by assumption)]; assumption)
     | (rw [letT x.d (by assumption)]; assumption)
     | (rw [letR x.d (by assumption)]; assumption)
     | (rw [letC x.d (by assumption)]; assumption)
     | (rw [letX x.d (by assumption)]; assumption)
     | (rw [letA x.d (by assumption)]; assumption)
    ·
     refine W_seq (W_region (L_r (r_eql rfl rfl) (L_r (r_ab rfl) (L_nil ?_))))
     refine W_if rfl (fun h41 => ?_) (fun h41 => ?_)
     ·
      refine W_region (L_r (r_mv) ?_)
      refine L_r (r_fieldb Tryz.underlying29 rfl (show _ = some 1 from rfl) rfl rfl (show _ = 3 from rfl)) (L_r (r_lb rfl rfl) ?_)
      refine L_call (.plain rfl) rfl rfl (r_call Tryz.func66 rfl rfl rfl (by rfl)) (lput_at w0.heap.size b5 (linA x.d a) _ _ ⟨v, Bk.au, Ow.au⟩ (by omega) (by omega) (by omega)) ?_
      rintro v46 w14 ⟨rfl, hln14, c14⟩
      have hz14 := c14.size
      have hit14 := its_tb (show Its w8 b22 s (a + 1) from Its.au) c14
      refine L_nil ?_
      refine ⟨⟨fx2, fx2, fx2, fx2, trivial⟩, _, ?_, a + 1, trivial, ?_, rfl⟩
      · omega
      refine ⟨by omega, Its.au, Bk.au, ?_, Ch.au⟩
      rw [linA_succ x.d a (by rw [← hs]; omega), ← hs]
      first
      | (rw [letS x.d (by assumption)]; assumption)
      | (rw [letO x.d (by assumption)]; assumption)
      | (rw [letM x.d (by assumption)]; assumption)
      | (rw [letN x.d (by assumption)]; assumption)
      | (rw [letT x.d (by assumption)]; assumption)
      | (rw [letR x.d (by assumption)]; assumption)
      | (rw [letC x.d (by assumption)]; assumption)
      | (rw [letX x.d (by assumption)]; assumption)
      | (rw [letA x.d (by assumption)]; assumption)
     ·
      refine W_seq (W_region (L_r (r_eql rfl rfl) (L_r (r_ab rfl) (L_nil ?_))))
      refine W_if rfl (fun h47 => ?_) (fun h47 => ?_)
      ·
       refine W_region (L_r (r_mv) ?_)
       refine L_r (r_fieldb Tryz.underlying29 rfl (show _ = some 1 from rfl) rfl rfl (show _ = 5 from rfl)) (L_r (r_lb rfl rfl) ?_)
       refine L_call (.plain rfl) rfl rfl (r_call Tryz.func39 rfl rfl rfl (by rfl)) (sitoa_walk base x.d.n _ (numP_ran hk.n) (hV.nw Ch.au hb) (by omega)) ?_
       rintro v52 w15 ⟨rfl, c15⟩
       have hz15 := c15.size
       refine L_call (.plain rfl) rfl rfl (r_call Tryz.func66 rfl rfl rfl (by rfl)) (lput_at w0.heap.size b5 (linA x.d a) _ _ ⟨v, Bk.au, Ow.au⟩ (by omega) (by omega) (by omega)) ?_
       rintro v53 w16 ⟨rfl, hln16, c16⟩
       have hz16 := c16.size
       have hit16 := its_tb (show Its w15 b22 s (a + 1) from Its.au) c16
       refine L_nil ?_
       refine ⟨⟨fx2, fx2, fx2, fx2, trivial⟩, _, ?_, a + 1, trivial, ?_, rfl⟩
       · omega
       refine ⟨by omega, Its.au, Bk.au, ?_, Ch.au⟩
       rw [linA_succ x.d a (by rw [← hs]; omega), ← hs]
       first
       | (rw [letS x.d (by assumption)]; assumption)
       | (rw [letO x.d (by assumption)]; assumption)
       | (rw [letM x.d (by assumption)]; assumption)
       | (rw [letN x.d (by assumption)]; assumption)
       | (rw [letT x.d (by assumption)]; assumption)
       | (rw [letR x.d (by assumption)]; assumption)
       | (rw [letC x.d (by assumption)]; assumption)
       | (rw [letX x.d (by assumption)]; assumption)
       | (rw [letA x.d (by assumption)]; assumption)
      ·
       refine W_seq (W_region (L_r (r_eql rfl rfl) (L_r (r_ab rfl) (L_nil ?_))))
       refine W_if rfl (fun h54 => ?_) (fun h54 => ?_)
       ·
        refine W_region (L_r (r_mv) ?_)
        refine L_r (r_fieldb Tryz.underlying29 rfl (show _ = some 1 from rfl) rfl rfl (show _ = 6 from rfl)) (L_r (r_lb rfl rfl) ?_)
        refine L_call (.plain rfl) rfl rfl (r_call Tryz.func39 rfl rfl rfl (by rfl)) (sitoa_walk base x.d.at' _ (numP_ran hk.at') (hV.nw Ch.au hb) (by omega)) ?_
        rintro v59 w17 ⟨rfl, c17⟩
        have hz17 := c17.size
        refine L_call (.plain rfl) rfl rfl (r_call Tryz.func66 rfl rfl rfl (by rfl)) (lput_at w0.heap.size b5 (linA x.d a) _ _ ⟨v, Bk.au, Ow.au⟩ (by omega) (by omega) (by omega)) ?_
        rintro v60 w18 ⟨rfl, hln18, c18⟩
        have hz18 := c18.size
        have hit18 := its_tb (show Its w17 b22 s (a + 1) from Its.au) c18
        refine L_nil ?_
        refine ⟨⟨fx2, fx2, fx2, fx2, trivial⟩, _, ?_, a + 1, trivial, ?_, rfl⟩
        · omega
        refine ⟨by omega, Its.au, Bk.au, ?_, Ch.au⟩
        rw [linA_succ x.d a (by rw [← hs]; omega), ← hs]
        first
        | (rw [letS x.d (by assumption)]; assumption)
        | (rw [letO x.d (by assumption)]; assumption)
        | (rw [letM x.d (by assumption)]; assumption)
        | (rw [letN x.d (by assumption)]; assumption)
        | (rw [letT x.d (by assumption)]; assumption)
        | (rw [letR x.d (by assumption)]; assumption)
        | (rw [letC x.d (by assumption)]; assumption)
        | (rw [letX x.d (by assumption)]; assumption)
        | (rw [letA x.d (by assumption)]; assumption)
       ·
        refine W_seq (W_region (L_r (r_eql rfl rfl) (L_r (r_ab rfl) (L_nil ?_))))
        refine W_if rfl (fun h61 => ?_) (fun h61 => ?_)
        ·
         refine W_region (L_r (r_mv) ?_)
         refine L_r (r_fieldb Tryz.underlying29 rfl (show _ = some 1 from rfl) rfl rfl (show _ = 7 from rfl)) (L_r (r_lb rfl rfl) ?_)
         refine L_call (.plain rfl) rfl rfl (r_call Tryz.func39 rfl rfl rfl (by rfl)) (sitoa_walk base x.d.ref _ (numP_ran hk.ref) (hV.nw Ch.au hb) (by omega)) ?_
         rintro v66 w19 ⟨rfl, c19⟩
         have hz19 := c19.size
         refine L_call (.plain rfl) rfl rfl (r_call Tryz.func66 rfl rfl rfl (by rfl)) (lput_at w0.heap.size b5 (linA x.d a) _ _ ⟨v, Bk.au, Ow.au⟩ (by omega) (by omega) (by omega)) ?_
         rintro v67 w20 ⟨rfl, hln20, c20⟩
         have hz20 := c20.size
         have hit20 := its_tb (show Its w19 b22 s (a + 1) from Its.au) c20
         refine L_nil ?_
         refine ⟨⟨fx2, fx2, fx2, fx2, trivial⟩, _, ?_, a + 1, trivial, ?_, rfl⟩
         · omega
         refine ⟨by omega, Its.au, Bk.au, ?_, Ch.au⟩
         rw [linA_succ x.d a (by rw [← hs]; omega), ← hs]
         first
         | (rw [letS x.d (by assumption)]; assumption)
         | (rw [letO x.d (by assumption)]; assumption)
         | (rw [letM x.d (by assumption)]; assumption)
         | (rw [letN x.d (by assumption)]; assumption)
         | (rw [letT x.d (by assumption)]; assumption)
         | (rw [letR x.d (by assumption)]; assumption)
         | (rw [letC x.d (by assumption)]; assumption)
         | (rw [letX x.d (by assumption)]; assumption)
         | (rw [letA x.d (by assumption)]; assumption)
        ·
         refine W_seq (W_region (L_r (r_eql rfl rfl) (L_r (r_ab rfl) (L_nil ?_))))
         refine W_if rfl (fun h68 => ?_) (fun h68 => ?_)
         ·
          refine W_region (L_r (r_mv) ?_)
          refine L_r (r_fieldb Tryz.underlying29 rfl (show _ = some 1 from rfl) rfl rfl (show _ = 8 from rfl)) (L_r (r_lb rfl rfl) ?_)
          refine L_call (.plain rfl) rfl rfl (r_call Tryz.func66 rfl rfl rfl (by rfl)) (lput_at w0.heap.size b5 (linA x.d a) _ _ ⟨v, Bk.au, Ow.au⟩ (by omega) (by omega) (by omega)) ?_
          rintro v73 w21 ⟨rfl, hln21, c21⟩
          have hz21 := c21.size
          have hit21 := its_tb (show Its w8 b22 s (a + 1) from Its.au) c21
          refine L_nil ?_
          refine ⟨⟨fx2, fx2, fx2, fx2, trivial⟩, _, ?_, a + 1, trivial, ?_, rfl⟩
          · omega
          refine ⟨by omega, Its.au, Bk.au, ?_, Ch.au⟩
          rw [linA_succ x.d a (by rw [← hs]; omega), ← hs]
          first
          | (rw [letS x.d (by assumption)]; assumption)
          | (rw [letO x.d (by assumption)]; assumption)
          | (rw [letM x.d (by assumption)]; assumption)
          | (rw [letN x.d (by assumption)]; assumption)
          | (rw [letT x.d (by assumption)]; assumption)
          | (rw [letR x.d (by assumption)]; assumption)
          | (rw [letC x.d (by assumption)]; assumption)
          | (rw [letX x.d (by assumption)]; assumption)
          | (rw [letA x.d (by assumption)]; assumption)
         ·
          refine W_seq (W_region (L_r (r_eql rfl rfl) (L_r (r_ab rfl) (L_nil ?_))))
          refine W_if rfl (fun h74 => ?_) (fun h74 => ?_)
          ·
           refine W_region (L_r (r_mv) ?_)
           refine L_r (r_fieldb Tryz.underlying29 rfl (show _ = some 1 from rfl) rfl rfl (show _ = 9 from rfl)) (L_r (r_lb rfl rfl) ?_)
           refine L_call (.plain rfl) rfl rfl (r_call Tryz.func42 rfl rfl rfl (by rfl)) (shex_walk x.d.bytes _ (by omega)) ?_
           rintro v79 w22 ⟨rfl, c22⟩
           have hz22 := c22.size
           refine L_call (.plain rfl) rfl rfl (r_call Tryz.func66 rfl rfl rfl (by rfl)) (lput_at w0.heap.size b5 (linA x.d a) _ _ ⟨v, Bk.au, Ow.au⟩ (by omega) (by omega) (by omega)) ?_
           rintro v80 w23 ⟨rfl, hln23, c23⟩
           have hz23 := c23.size
           have hit23 := its_tb (show Its w22 b22 s (a + 1) from Its.au) c23
           refine L_nil ?_
           refine ⟨⟨fx2, fx2, fx2, fx2, trivial⟩, _, ?_, a + 1, trivial, ?_, rfl⟩
           · omega
           refine ⟨by omega, Its.au, Bk.au, ?_, Ch.au⟩
           rw [linA_succ x.d a (by rw [← hs]; omega), ← hs]
           first
           | (rw [letS x.d (by assumption)]; assumption)
           | (rw [letO x.d (by assumption)]; assumption)
           | (rw [letM x.d (by assumption)]; assumption)
           | (rw [letN x.d (by assumption)]; assumption)
           | (rw [letT x.d (by assumption)]; assumption)
           | (rw [letR x.d (by assumption)]; assumption)
           | (rw [letC x.d (by assumption)]; assumption)
           | (rw [letX x.d (by assumption)]; assumption)
           | (rw [letA x.d (by assumption)]; assumption)
          ·
           refine W_seq (W_region (L_r (r_eql rfl rfl) (L_r (r_ab rfl) (L_nil ?_))))
           refine W_if rfl (fun h81 => ?_) (fun h81 => ?_)
           ·
            refine W_seq (W_region ?_)
            refine L_r (r_fieldb Tryz.underlying29 rfl (show _ = some 1 from rfl) rfl rfl (show _ = 4 from rfl)) (L_r (r_lb rfl rfl) ?_)
            refine L_r (r_lenSl Tryz.underlying27 (by conv => lhs; whnf) Sl.au) (L_r (r_mi rfl) (L_nil (W_block ?_)))
            refine W_loopF [1, 5, 6, 22, 84, 85] (fun mz_ f W => ∃ (j : Nat), f 86 = .int .i64 j ∧ (j ≤ x.d.args.length ∧ Its W b22 s (a + 1) ∧ Bk W b1 x.row 29 ∧ LnAt W w0.heap.size b5 (linA x.d a ++ (x.d.args.take j).map fun v => sb (valB v)) ∧ Nw w0 W) ∧ mz_ = x.d.args.length - j) ?_ ?_
            ·
             refine ⟨_, 0, rfl, ?_, rfl⟩
             exact ⟨by omega, Its.au, Bk.au, ⟨v, Bk.au, by rw [List.take_zero, List.map_nil, List.append_nil]; (exact Ow.au)⟩, Ch.au⟩
            rintro m1 g1 w24 ⟨j, hf86, hR1, rfl⟩
            refine W_as 86 hf86 rfl ?_
            clear hf86
            clear hOw hk5 hv22 hit hk1 v
            obtain ⟨hj, hit, hk1, ⟨v, hk5, hOw⟩, hnwj⟩ := hR1
            have hzj := hnwj.size
            have hv22 := ow_its hOw hit
            refine W_seq (W_region (L_r (r_lss rfl rfl) (L_nil (W_seq ?_))))
            refine W_if rfl (fun h87 => ?_) (fun h87 => ?_)
            ·
             have hjl : j < x.d.args.length := by omega
             have hrow := cellsVa_row x.d.args j hjl
             have hmem := List.getElem_mem hjl
             obtain ⟨xv, hxv⟩ : ∃ xv, xv = x.d.args[j] := ⟨_, rfl⟩
             rw [← hxv] at hrow hmem
             have hap := hk.args xv hmem
             have hrv := hr.2 xv hmem
             have hsv : xv.s.size = 0 := by rcases hap with h | h | h | h <;> (first | (rw [h.2.2.1]; rfl) | (rw [h.2.1]; rfl))
             refine W_skip (W_seq (W_block (W_seq (W_region ?_))))
             refine L_r (r_ix Tryz.underlying27 (show _ = some 4 from rfl) (by conv => lhs; whnf) rfl Sl.au) ?_
             refine L_r (r_loadSlrow (us := [.int .i64 xv.sort, .int .i64 xv.n, .string xv.s, .int .i64 xv.ref]) Tryz.underlying43 rfl rfl rfl rfl Sl.au (by exact hrow)) ?_
             refine L_new (.plain rfl) rfl rfl (r_alloca rfl) (fun w25 b10 hb10 eb25 hs25 c25 => ?_)
             refine L_storerow (.plain rfl) rfl rfl Bk.au (by first | rfl | (simp; done) | assumption) (by first | rfl | assumption) (by first | rfl | (simp [Value.oneCell']; done) | assumption) (fun w26 hb26 hs26 c26 => (L_nil (W_region (L_r (r_mv) ?_))))
             refine L_r (r_loadrow Tryz.underlying43 rfl rfl Bk.au (by first | rfl | assumption)) ?_
             refine L_call (.plain rfl) rfl rfl (r_call Tryz.func41 rfl rfl rfl (by rfl)) (svalue_walk base xv _ (by omega) hrv (by rcases hap with h | h | h | h <;> omega) (hV.nw Ch.au hb) (by omega)) ?_
             rintro v92 w27 ⟨rfl, c27⟩
             have hz27 := c27.size
             refine L_call (.plain rfl) rfl rfl (r_call Tryz.func66 rfl rfl rfl (by rfl)) (lput_at w0.heap.size b5 (linA x.d a ++ (x.d.args.take j).map fun v => sb (valB v)) _ _ ⟨v, Bk.au, Ow.au⟩ (by omega) (by omega) (by rw [List.length_append, List.length_map, List.length_take]; omega)) ?_
             rintro v93 w28 ⟨rfl, hln28, c28⟩
             have hz28 := c28.size
             have hit28 := its_tb (show Its w27 b22 s (a + 1) from Its.au) c28
             refine L_nil (W_region ?_)
             refine L_r (r_add rfl rfl (by first | exact wr_i64 (by omega) | rfl)) (L_r (r_mi rfl) (L_nil ?_))
             refine ⟨⟨fx2, fx2, fx2, fx2, fx2, fx2, trivial⟩, _, ?_, j + 1, rfl, ?_, rfl⟩
             · omega
             exact ⟨by omega, Its.au, Bk.au, by rw [← linA_args x.d a j hjl, ← hxv]; assumption, Ch.au⟩
            ·
             have hje : j = x.d.args.length := by omega
             have htk : (x.d.args.take j).map (fun v => sb (valB v)) = x.d.args.map fun v => sb (valB v) := by rw [List.take_of_length_le (by omega)]
             rw [htk] at hOw
             have hln1 : LnAt w24 w0.heap.size b5 (linA x.d a ++ x.d.args.map fun v => sb (valB v)) := ⟨v, Bk.au, Ow.au⟩
             refine W_exit ?_
             repeat (first | refine blk_hit ?_ | refine blk_miss rfl ?_)
             refine ⟨⟨fx2, fx2, fx2, fx2, trivial⟩, _, ?_, a + 1, trivial, ?_, rfl⟩
             · omega
             refine ⟨by omega, Its.au, Bk.au, ?_, Ch.au⟩
             rw [linA_succ x.d a (by rw [← hs]; omega), ← hs]
             first
             | (rw [letS x.d (by assumption)]; assumption)
             | (rw [letO x.d (by assumption)]; assumption)
             | (rw [letM x.d (by assumption)]; assumption)
             | (rw [letN x.d (by assumption)]; assumption)
             | (rw [letT x.d (by assumption)]; assumption)
             | (rw [letR x.d (by assumption)]; assumption)
             | (rw [letC x.d (by assumption)]; assumption)
             | (rw [letX x.d (by assumption)]; assumption)
             | (rw [letA x.d (by assumption)]; assumption)
           ·
            exfalso
            have k27 : ¬ ((bat s a).toNat : Int) = 115 := h27
            have k34 : ¬ ((bat s a).toNat : Int) = 111 := h34
            have k41 : ¬ ((bat s a).toNat : Int) = 109 := h41
            have k47 : ¬ ((bat s a).toNat : Int) = 110 := h47
            have k54 : ¬ ((bat s a).toNat : Int) = 116 := h54
            have k61 : ¬ ((bat s a).toNat : Int) = 114 := h61
            have k68 : ¬ ((bat s a).toNat : Int) = 99 := h68
            have k74 : ¬ ((bat s a).toNat : Int) = 98 := h74
            have k81 : ¬ ((bat s a).toNat : Int) = 97 := h81
            unfold onlyLs at hls
            simp only [List.mem_cons, List.not_mem_nil, or_false] at hls
            omega
end Go.Proofs.YtgmeojpekdekeaaGreatDoor

namespace Go.Proofs.YtgmeojpekdekeaaGreatDoor
open Go Go.RowKit
set_option linter.unusedVariables false
set_option linter.unusedSimpArgs false
set_option maxRecDepth 100000
def shwB (l : List DD) : List UInt8 := l.flatMap fun x => linD x.d
theorem shwB_take {l : List DD} {i : Nat} (h : i < l.length) : shwB (l.take (i + 1)) = shwB (l.take i) ++ linD l[i].d := by
  unfold shwB
  rw [List.take_succ_eq_append_getElem h, List.flatMap_append]
  simp
theorem shwB_len : ∀ l : List DD, (∀ x ∈ l, chkD x.d ∧ ranD x.d) → (shwB l).length ≤ l.length * 20001
  | [], _ => by simp [shwB]
  | x :: l, h => by
    have h1 := linD_len (h x List.mem_cons_self).1 (h x List.mem_cons_self).2
    have h2 := shwB_len l fun y hy => h y (List.mem_cons_of_mem _ hy)
    unfold shwB at h2 ⊢
    simp only [List.flatMap_cons, List.length_append, List.length_cons]
    rw [Nat.succ_mul]; omega
theorem row_one (x : DD) (h : x.va.oneCell' = true) : (x.row.all fun v => v.oneCell') = true := by
  simp [DD.row, h]
  simp [Value.oneCell']
/-- A deed may be asked. -/
structure askD (w : World) (x : DD) : Prop where
  ok : x.ok w
  ran : ranD x.d
  len : x.d.args.length ≤ 1000000000000000
theorem askD.nw {w w' : World} {x : DD} (h : askD w x) (c : Nw w w') : askD w' x := ⟨h.ok.nw c, h.ran, h.len⟩
set_option maxHeartbeats 2000000 in
theorem sshow_walk (base : Nat) (v : Value) (l : List DD) (w0 : World) (hv : Sl w0 v 10 l.length (cellsDD l)) (hl : l.length ≤ 1000) (hx : ∀ x ∈ l, askD w0 x) (hV : Sv base w0) (hb : base ≤ w0.heap.size) : Does Tryz.prog 12 #[v] w0 (fun r w' => (((∀ x ∈ l, chkD x.d) ∧ r = .tuple #[.string (sb (shwB l)), .int .i64 0]) ∨ ((¬ ∀ x ∈ l, chkD x.d) ∧ r = .tuple #[.string mtB, .int .i64 201])) ∧ Nw w0 w') := by
  refine fn_of (n := 22) (args := [v]) Tryz.func12 rfl rfl rfl (W_seq (W_region (L_r (r_as rfl) (L_r (r_ai rfl) (L_nil (W_seq (W_region (L_r (r_as rfl) ?_))))))))
  refine L_nil (W_seq (W_seq (W_region (L_r (r_mv) ?_))))
  refine L_r (r_lenSl Tryz.underlying22 (by conv => lhs; whnf) Sl.au) (L_r (r_mi rfl) (L_nil (W_block ?_)))
  refine W_loopF [7, 8] (fun mz_ f W => ∃ (i : Nat), f 9 = .int .i64 i ∧ f 4 = .string (sb (shwB (l.take i))) ∧ (i ≤ l.length ∧ (∀ j (h : j < l.length), j < i → chkD l[j].d) ∧ Nw w0 W) ∧ mz_ = l.length - i) ?_ ?_
  ·
   refine ⟨_, 0, rfl, rfl, ?_, rfl⟩
   exact ⟨by omega, fun j h hj => absurd hj (by omega), Ch.au⟩
  rintro m0 g0 w1 ⟨i, hf9, hf4, hR0, rfl⟩
  refine W_as 9 hf9 rfl ?_
  refine W_as 4 hf4 rfl ?_
  clear hf9 hf4
  obtain ⟨hi, hall, hnw⟩ := hR0
  have hz := hnw.size
  refine W_seq (W_region (L_r (r_lss rfl rfl) (L_nil (W_seq ?_))))
  refine W_if rfl (fun h10 => ?_) (fun h10 => ?_)
  ·
   have hil : i < l.length := by omega
   have hrow := cellsDD_row l i hil
   have hmem := List.getElem_mem hil
   obtain ⟨x, hxe⟩ : ∃ x, x = l[i] := ⟨_, rfl⟩
   rw [← hxe] at hrow hmem
   have hax := hx x hmem
   have hlen := shwB_len (l.take i) fun y hy => by
     obtain ⟨j, hj, rfl⟩ := List.getElem_of_mem hy
     rw [List.getElem_take]
     rw [List.length_take] at hj
     exact ⟨hall j (by omega) (by omega), (hx _ (List.getElem_mem _)).ran⟩
   rw [List.length_take] at hlen
   have hss := sb_size (shwB (l.take i))
   refine W_skip (W_seq (W_block (W_seq (W_region ?_))))
   refine L_r (r_ix Tryz.underlying22 (show _ = some 10 from rfl) (by conv => lhs; whnf) rfl Sl.au) ?_
   refine L_r (r_loadSlrow (us := [.string x.d.kind, .int .i64 x.d.side, .int .u64 (x.d.obj : Int), .string x.d.method, x.va, .int .i64 x.d.n, .int .i64 x.d.at', .int .i64 x.d.ref, .string x.d.cls, .string x.d.bytes]) Tryz.underlying29 rfl rfl rfl rfl Sl.au (by exact hrow)) ?_
   refine L_new (.plain rfl) rfl rfl (r_alloca rfl) (fun w2 b6 hb6 eb2 hs2 c2 => ?_)
   refine L_storerow (.plain rfl) rfl rfl Bk.au (by first | rfl | (simp; done) | assumption) (by first | rfl | assumption) (by exact row_one x (sl_one hax.ok)) (fun w3 hb3 hs3 c3 => (L_nil (W_seq (W_seq (W_region ?_)))))
   refine L_r (r_loadrow Tryz.underlying29 rfl rfl Bk.au (by first | rfl | assumption)) ?_
   refine L_call (.plain rfl) rfl rfl (r_call Tryz.func10 rfl rfl rfl (by rfl)) (scheck_walk base x _ (hV.nw Ch.au hb) (by omega) (hax.ok.nw Ch.au) hax.len) ?_
   rintro v14 w4 ⟨bc, rfl, hbc, c4⟩
   have hz4 := c4.size
   rw [chk_iff] at hbc
   refine L_r (r_not rfl) (L_nil ?_)
   refine W_bool rfl (fun h15 => ?_) (fun h15 => ?_)
   ·
    refine W_seq (W_region (L_r (r_as rfl) (L_r (r_ai rfl) (L_nil (W_ret ?_)))))
    refine ret2 (u := .string _) (v := .int _ _) rfl rfl rfl ?_
    first
    | (refine ⟨.inl ⟨fun y hy => ?_, ?_⟩, Ch.au⟩
       · obtain ⟨j, hj, rfl⟩ := List.getElem_of_mem hy
         exact hall j hj (by omega)
       · rw [List.take_of_length_le (by omega)])
    | exact ⟨.inr ⟨fun h => absurd (hbc.2 (h x hmem)) (by simpa using h15), rfl⟩, Ch.au⟩
   ·
    have hck : chkD x.d := hbc.1 (by simpa using h15)
    have hln := linD_len hck hax.ran
    have hls := sb_size (linD x.d)
    refine W_skip (W_region (L_r (r_ms rfl) ?_))
    refine L_r (r_loadrow Tryz.underlying29 rfl rfl Bk.au (by first | rfl | assumption)) ?_
    refine L_call (.plain rfl) rfl rfl (r_call Tryz.func34 rfl rfl rfl (by rfl)) (line_walk base x _ (hV.nw Ch.au hb) (by omega) (hax.ok.nw Ch.au) hck hax.ran) ?_
    rintro v18 w5 ⟨rfl, c5⟩
    have hz5 := c5.size
    refine L_r (r_adds rfl rfl (by first | omega | (simp only [ByteArray.size_append]; omega))) (L_r (r_as rfl) (L_nil (W_region ?_)))
    refine L_r (r_add rfl rfl (by first | exact wr_i64 (by omega) | rfl)) (L_r (r_mi rfl) (L_nil ?_))
    refine ⟨⟨fx2, fx2, trivial⟩, _, ?_, i + 1, rfl, (by refine congrArg Value.string ?_; rw [shwB_take hil, ← hxe, sb_append]), ?_, rfl⟩
    · omega
    refine ⟨by omega, fun j h hj => ?_, Ch.au⟩
    rcases Nat.lt_or_ge j i with k | k
    · exact hall j h k
    ·
     have e : j = i := by omega
     subst e
     rw [← hxe]; exact hck
  ·
   refine W_exit ?_
   repeat (first | refine blk_hit ?_ | refine blk_miss rfl ?_)
   refine W_seq (W_region (L_r (r_ms rfl) (L_r (r_as rfl) (L_r (r_ai rfl) (L_nil (W_ret ?_))))))
   refine ret2 (u := .string _) (v := .int _ _) rfl rfl rfl ?_
   first
   | (refine ⟨.inl ⟨fun y hy => ?_, ?_⟩, Ch.au⟩
      · obtain ⟨j, hj, rfl⟩ := List.getElem_of_mem hy
        exact hall j hj (by omega)
      · rw [List.take_of_length_le (by omega)])
   | exact ⟨.inr ⟨fun h => absurd (hbc.2 (h x hmem)) (by simpa using h15), rfl⟩, Ch.au⟩
end Go.Proofs.YtgmeojpekdekeaaGreatDoor

namespace Go.Proofs.YtgmeojpekdekeaaGreatDoor
open Go Go.RowKit
set_option linter.unusedVariables false
set_option linter.unusedSimpArgs false
variable {P : Program} {w : World} {f : Fr} {dst : Option Tmp} {ty : TypeId} {pos : String} {af : Array Edge} {g : Option (Nat × Bool)}
def nif : Value → Bool
  | .nilIface => true
  | _ => false
def Ifv (v : Value) : Prop := v = .nilIface ∨ ∃ a b, v = .iface a b
theorem r_mkif {x : Operand} {t : TypeId} {dd : TypeDesc} {v : Value} (hu : P.underlying t = some dd) (hn : ∀ ms, dd ≠ .interface ms) (hx : ev f x = v) : (execOp (ev f) ⟨dst, .makeInterface t x, ty, pos, af, g⟩).run P w = .ok (.value (.iface t v)) w := by
  cases dd
  case interface ms => exact absurd rfl (hn ms)
  all_goals simp [execOp, Instr.makeInterface, run_underlying hu, hx]
theorem r_neif {x : Operand} {t : TypeId} {ms : Array (String × TypeId)} {v : Value} (hu : P.underlying t = some (.interface ms)) (hx : ev f x = v) (hv : Ifv v) : (execOp (ev f) ⟨dst, .binOp .neq t x (.const .nilIface) t, ty, pos, af, g⟩).run P w = .ok (.value (.bool (!nif v))) w := by
  have h2 : (binOp .neq t v .nilIface).run P w = .ok (.bool (!nif v)) w := by
    have h : ∀ d : Nat, (Op.equalIn (d + 1) t v .nilIface).run P w = .ok (nif v) w := fun d => by
      rcases hv with rfl | ⟨a, b, rfl⟩ <;> simp [Op.equalIn, run_underlying hu, nif]
    simp only [binOp]
    simp [Op.equal, Op.maxDepth, h 9999]
  rcases hv with rfl | ⟨a, b, rfl⟩ <;> simp [execOp, hx, show ev f (.const .nilIface) = .nilIface from rfl, eqGuard, h2]
end Go.Proofs.YtgmeojpekdekeaaGreatDoor

namespace Go.Proofs.YtgmeojpekdekeaaGreatDoor
open Go Go.RowKit Go.Shelf
set_option linter.unusedVariables false
set_option linter.unusedSimpArgs false
set_option maxRecDepth 100000
def lowN (c : UInt8) : Nat := (c ||| 32).toNat
theorem low_all : ∀ n : Fin 256, bits .or .u8 (n.val : Int) 32 = ((lowN (UInt8.ofNat n.val) : Nat) : Int) := by decide +kernel
theorem low_bits (c : UInt8) : bits .or .u8 (c.toNat : Int) 32 = (lowN c : Int) := by
  have h := low_all ⟨c.toNat, c.toNat_lt⟩
  simpa using h
theorem hexV_all : ∀ n : Fin 256, ¬ (48 ≤ n.val ∧ n.val ≤ 57) → hexV (UInt8.ofNat n.val) = if 97 ≤ lowN (UInt8.ofNat n.val) ∧ lowN (UInt8.ofNat n.val) ≤ 102 then some (lowN (UInt8.ofNat n.val) - 87) else none := by decide +kernel
theorem hexV_low {c : UInt8} (h : ¬ (48 ≤ c.toNat ∧ c.toNat ≤ 57)) : hexV c = if 97 ≤ lowN c ∧ lowN c ≤ 102 then some (lowN c - 87) else none := by
  have k := hexV_all ⟨c.toNat, c.toNat_lt⟩ h
  simpa using k
theorem hexV_dig {c : UInt8} (h : 48 ≤ c.toNat ∧ c.toNat ≤ 57) : hexV c = some (c.toNat - 48) := by unfold hexV; rw [if_pos h]
theorem by_get (s : ByteArray) (j : Nat) (h : j < s.size) : ((bs s).map b8)[j]? = some (.int .u8 ((bat s j).toNat : Int)) := by
  have hl : j < (bs s).length := h
  rw [List.getElem?_map, List.getElem?_eq_getElem hl]
  unfold bat
  rw [List.getD_eq_getElem?_getD, List.getElem?_eq_getElem hl]
  rfl
theorem slower_walk (c : UInt8) (w0 : World) : Does Tryz.prog 110 #[.int .u8 (c.toNat : Int)] w0 (fun r w' => r = .int .u8 (lowN c : Int) ∧ Nw w0 w') := by
  refine fn_of (n := 5) (args := [.int .u8 (c.toNat : Int)]) Tryz.func110 rfl rfl rfl (W_seq (W_region (L_r (r_ai rfl) (L_nil (W_seq (W_region (L_r (r_mi rfl) (L_r (r_or rfl rfl) ?_))))))))
  refine L_r (r_ai rfl) (L_nil (W_ret ?_))
  refine ret1 (v := .int _ _) rfl rfl ?_
  refine ⟨?_, Ch.au⟩
  rw [low_bits]
/-- A digit's value, as the program has it. -/
def dgV (c : UInt8) (d : Int) : Prop := (0 ≤ d ∧ d ≤ 35) ∧ (d < 16 → hexV c = some d.toNat) ∧ (16 ≤ d → hexV c = none)
set_option maxHeartbeats 4000000 in
theorem spui_walk (s : ByteArray) (w0 : World) (hs : s.size = 2) : Does Tryz.prog 89 #[.string s, .int .i64 16, .int .i64 8] w0 (fun r w' => ∃ (n : Int) (e : Value), r = .tuple #[.int .u64 n, e] ∧ ((hexP (bat s 0) (bat s 1) = some (UInt8.ofNat n.toNat) ∧ 0 ≤ n ∧ n < 256 ∧ e = .nilIface) ∨ (hexP (bat s 0) (bat s 1) = none ∧ e = .iface 113 (.int .i64 2))) ∧ Nw w0 w') := by
  have hbl := bs_length s
  have h255 : IntKind.u64.wrap (IntKind.u64.wrap (1 * 2 ^ min (Int.toNat 8) IntKind.u64.bits) - 1) = 255 := by decide
  refine fn_of (n := 172) (args := [.string s, .int .i64 16, .int .i64 8]) Tryz.func89 rfl rfl rfl (W_seq (W_region (L_r (r_ai rfl) (L_r (r_av) (L_nil (W_seq (W_seq (W_region ?_))))))))
  refine L_r (r_ms rfl) (L_r (r_eqls rfl rfl) ?_)
  refine L_as (v := .bool _) (v' := .bool false) 19 rfl (dec_f (by intro e; rw [e] at hs; exact absurd hs (by decide))).symm (L_nil ?_)
  refine W_false rfl (W_skip (W_seq (W_region (L_r (r_mi rfl) (L_r (r_eql rfl rfl) ?_)))))
  refine L_as (v := .bool _) (v' := .bool false) 22 rfl (dec_f (by decide)).symm (L_r (r_ab rfl) (L_nil (W_seq (W_region (L_r (r_ms rfl) (L_r (r_as rfl) (L_nil (W_seq ?_))))))))
  refine W_block (W_seq (W_region (L_r (r_mi rfl) (L_r (r_leq rfl rfl) ?_))))
  refine L_as (v := .bool _) (v' := .bool true) 27 rfl (dec_t (by decide)).symm (L_r (r_mb rfl) ?_)
  refine L_g (r_mi rfl) ?_
  refine L_g (r_leq rfl rfl) ?_
  refine L_as (v := .bool _) (v' := .bool true) 30 rfl (dec_t (by decide)).symm (L_r (r_pt rfl rfl) (L_r (r_ab rfl) (L_nil ?_)))
  refine W_true rfl (W_skip (W_seq (W_seq (W_region (L_r (r_mi rfl) (L_r (r_eql rfl rfl) ?_))))))
  refine L_as (v := .bool _) (v' := .bool false) 77 rfl (dec_f (by decide)).symm (L_nil ?_)
  refine W_false rfl (W_seq (W_region (L_r (r_mi rfl) (L_r (r_lss rfl rfl) ?_))))
  refine L_as (v := .bool _) (v' := .bool false) 79 rfl (dec_f (by decide)).symm (L_r (r_mb rfl) ?_)
  refine L_g (r_mi rfl) ?_
  refine L_g (r_gtr rfl rfl) ?_
  refine L_as (v := .bool _) (v' := .bool false) 82 rfl (dec_f (by decide)).symm (L_r (r_pf rfl rfl) (L_nil ?_))
  refine W_false rfl (W_skip (W_seq (W_region (L_r (r_ai rfl) (L_nil (W_seq (W_seq (W_region ?_))))))))
  refine L_r (r_mi rfl) (L_nil (W_block (W_seq (W_region (L_r (r_eql rfl rfl) ?_)))))
  refine L_as (v := .bool _) (v' := .bool false) 91 rfl (dec_f (by decide)).symm (L_r (r_ab rfl) (L_nil ?_))
  refine W_false rfl (W_seq (W_region (L_r (r_eql rfl rfl) ?_)))
  refine L_as (v := .bool _) (v' := .bool true) 93 rfl (dec_t (by decide)).symm (L_r (r_ab rfl) (L_nil ?_))
  refine W_true rfl (W_region (L_r (r_ai rfl) (L_nil (W_seq (W_region (L_r (r_mi rfl) ?_))))))
  refine L_r (r_conv Tryz.underlying3 Tryz.underlying98 rfl (by first | exact wr_u64 (by omega) | rfl)) ?_
  refine L_r (r_shl rfl rfl (by omega) rfl) ?_
  refine L_r (r_sub rfl rfl (by first | exact wr_u64 (by omega) | rfl)) (L_r (r_ai rfl) (L_nil (W_seq (W_region (L_r (r_ab rfl) (L_nil (W_seq (W_region ?_))))))))
  refine L_r (r_ai rfl) (L_nil (W_seq (W_seq (W_region (L_r (r_ms rfl) ?_)))))
  refine L_sbytes Tryz.underlying9 Tryz.underlying94 Tryz.underlying5 (by first | omega | (simp only [sb_size, ByteArray.size_append]; omega)) (.plain rfl) rfl rfl (fun v99 w1 hv99 c1 eb1 hs1 => ?_)
  refine L_r (r_lenSl Tryz.underlying94 (by conv => lhs; whnf) Sl.au) (L_r (r_mi rfl) (L_nil (W_block ?_)))
  refine W_loopF [1, 8, 9, 10, 11, 99, 100] (fun mz_ f W => ∃ (j : Nat) (m : Int), f 101 = .int .i64 j ∧ f 13 = .int .u64 m ∧ f 12 = .bool false ∧ (j ≤ 2 ∧ 0 ≤ m ∧ m < 256 ∧ (j = 0 → m = 0) ∧ (j = 1 → m < 16 ∧ hexV (bat s 0) = some m.toNat) ∧ (j = 2 → ∃ x y : Nat, x < 16 ∧ y < 16 ∧ hexV (bat s 0) = some x ∧ hexV (bat s 1) = some y ∧ m = x * 16 + y) ∧ Nw w1 W) ∧ mz_ = 2 - j) ?_ ?_
  ·
   refine ⟨_, 0, 0, rfl, rfl, rfl, ?_, rfl⟩
   exact ⟨by omega, by omega, by omega, fun _ => rfl, fun h => absurd h (by omega), fun h => absurd h (by omega), Ch.au⟩
  rintro m0 g0 w2 ⟨j, m, hf101, hf13, hf12, hR0, rfl⟩
  refine W_as 101 hf101 rfl ?_
  refine W_as 13 hf13 rfl ?_
  refine W_as 12 hf12 rfl ?_
  clear hf101 hf13 hf12
  obtain ⟨hj, hm0, hm1, hj0, hj1, hj2, hnw⟩ := hR0
  have hz := hnw.size
  refine W_seq (W_region (L_r (r_lss rfl rfl) (L_nil (W_seq ?_))))
  refine W_if rfl (fun h102 => ?_) (fun h102 => ?_)
  ·
   have hjl : j < 2 := by omega
   have hct := (bat s j).toNat_lt
   refine W_skip (W_seq (W_block (W_seq (W_region ?_))))
   refine L_r (r_ix Tryz.underlying94 (show _ = some 1 from rfl) (by conv => lhs; whnf) rfl Sl.au) ?_
   refine L_r (r_loadSl rfl rfl Sl.au (by exact by_get s j (by omega))) (L_r (r_ai rfl) (L_nil (W_seq (W_region (L_r (r_ai rfl) (L_nil ?_))))))
   refine W_cutF [1, 8, 9, 10, 11, 13, 99, 100, 101] (fun f W => ∃ (d : Int), f 16 = .int .u8 d ∧ f 12 = .bool false ∧ (dgV (bat s j) d ∧ Nw w1 W)) ?_ ?_
   ·
    refine W_block ?_
    refine W_cutF [1, 8, 9, 10, 11, 12, 13, 15, 99, 100, 101] (fun f W => f 106 = .bool false ∧ (W = w2)) ?_ ?_
    ·
     refine W_region (L_r (r_mi rfl) (L_r (r_eql rfl rfl) (L_r (r_mb rfl) ?_)))
     refine L_case (d := 109) rfl (fun h109 => ?_) (fun h109 => ?_)
     ·
      refine L_g (r_mb rfl) (L_r (r_pt rfl rfl) (L_r (r_ab rfl) (L_nil ?_)))
      refine ⟨⟨fx2, fx2, fx2, fx2, fx2, fx2, fx2, fx2, fx2, fx2, fx2, trivial⟩, rfl, ?_⟩
      rfl
     ·
      refine L_ps (L_r (r_pf rfl rfl) (L_r (r_ab rfl) (L_nil ?_)))
      refine ⟨⟨fx2, fx2, fx2, fx2, fx2, fx2, fx2, fx2, fx2, fx2, fx2, trivial⟩, rfl, ?_⟩
      rfl
    rintro gcr40 w3 ⟨hf106, hCr40⟩
    refine W_as 106 hf106 rfl ?_
    clear hf106
    subst hCr40
    refine W_as (v := .bool _) (v' := .bool false) 106 rfl (congrArg Value.bool (by rfl)) ?_
    refine W_false rfl ?_
    refine W_cutF [1, 8, 9, 10, 11, 12, 13, 15, 99, 100, 101] (fun f W => f 112 = .bool (decide (48 ≤ (bat s j).toNat ∧ (bat s j).toNat ≤ 57)) ∧ (W = w3)) ?_ ?_
    ·
     refine W_region (L_r (r_mi rfl) (L_r (r_leq rfl rfl) (L_r (r_mb rfl) ?_)))
     refine L_case (d := 115) rfl (fun h115 => ?_) (fun h115 => ?_)
     ·
      refine L_g (r_mi rfl) ?_
      refine L_g (r_leq rfl rfl) (L_r (r_pt rfl rfl) (L_r (r_ab rfl) (L_nil ?_)))
      refine ⟨⟨fx2, fx2, fx2, fx2, fx2, fx2, fx2, fx2, fx2, fx2, fx2, trivial⟩, (dec_i (by omega)), ?_⟩
      rfl
     ·
      refine L_ps (L_ps (L_r (r_pf rfl rfl) (L_r (r_ab rfl) (L_nil ?_))))
      refine ⟨⟨fx2, fx2, fx2, fx2, fx2, fx2, fx2, fx2, fx2, fx2, fx2, trivial⟩, (dec_f (by omega)), ?_⟩
      rfl
    rintro gcr42 w4 ⟨hf112, hCr42⟩
    refine W_as 112 hf112 rfl ?_
    clear hf112
    subst hCr42
    refine W_if rfl (fun h112 => ?_) (fun h112 => ?_)
    ·
     refine W_region (L_r (r_mi rfl) ?_)
     refine L_r (r_sub rfl rfl (by first | exact wr_u8 (by omega) | rfl)) (L_r (r_ai rfl) (L_nil ?_))
     refine ⟨⟨fx2, fx2, fx2, fx2, fx2, fx2, fx2, fx2, fx2, trivial⟩, _, rfl, rfl, ?_⟩
     refine ⟨?_, Ch.au⟩
     first
     | (refine ⟨by omega, fun _ => ?_, fun h => absurd h (by omega)⟩
        rw [hexV_dig (by assumption)]; congr 1; omega)
     | (refine ⟨by omega, fun h => ?_, fun h => ?_⟩
        · rw [hexV_low (by assumption), if_pos (by omega)]; congr 1; omega
        · rw [hexV_low (by assumption), if_neg (by omega)])
    ·
     refine W_cutF [1, 8, 9, 10, 11, 12, 13, 15, 99, 100, 101] (fun f W => f 121 = .bool (decide (97 ≤ lowN (bat s j) ∧ lowN (bat s j) ≤ 122)) ∧ (Nw w1 W)) ?_ ?_
     ·
      refine W_region (L_r (r_mi rfl) ?_)
      refine L_call (.plain rfl) rfl rfl (r_call Tryz.func110 rfl rfl rfl (by rfl)) (slower_walk (bat s j) _) ?_
      rintro v123 w5 ⟨rfl, c5⟩
      have hz5 := c5.size
      have hlw : lowN (bat s j) < 256 := UInt8.toNat_lt _
      refine L_r (r_leq rfl rfl) (L_r (r_mb rfl) ?_)
      refine L_case (d := 125) rfl (fun h125 => ?_) (fun h125 => ?_)
      ·
       refine L_g (r_mi rfl) ?_
       refine L_call (.yes 3 true rfl rfl) rfl rfl (r_call Tryz.func110 rfl rfl rfl (by rfl)) (slower_walk (bat s j) _) ?_
       rintro v127 w6 ⟨rfl, c6⟩
       have hz6 := c6.size
       have hlw : lowN (bat s j) < 256 := UInt8.toNat_lt _
       refine L_g (r_leq rfl rfl) (L_r (r_pt rfl rfl) (L_r (r_ab rfl) (L_nil ?_)))
       refine ⟨⟨fx2, fx2, fx2, fx2, fx2, fx2, fx2, fx2, fx2, fx2, fx2, trivial⟩, (dec_i (by omega)), ?_⟩
       exact Ch.au
      ·
       refine L_ps (L_ps (L_ps (L_r (r_pf rfl rfl) (L_r (r_ab rfl) (L_nil ?_)))))
       refine ⟨⟨fx2, fx2, fx2, fx2, fx2, fx2, fx2, fx2, fx2, fx2, fx2, trivial⟩, (dec_f (by omega)), ?_⟩
       exact Ch.au
     rintro gcr44 w7 ⟨hf121, hCr44⟩
     refine W_as 121 hf121 rfl ?_
     clear hf121
     have hlw : lowN (bat s j) < 256 := UInt8.toNat_lt _
     refine W_if rfl (fun h121 => ?_) (fun h121 => ?_)
     ·
      refine W_region (L_r (r_mi rfl) ?_)
      refine L_call (.plain rfl) rfl rfl (r_call Tryz.func110 rfl rfl rfl (by rfl)) (slower_walk (bat s j) _) ?_
      rintro v131 w8 ⟨rfl, c8⟩
      have hz8 := c8.size
      have hlw : lowN (bat s j) < 256 := UInt8.toNat_lt _
      refine L_r (r_sub rfl rfl (by first | exact wr_u8 (by omega) | rfl)) ?_
      refine L_r (r_add rfl rfl (by first | exact wr_u8 (by omega) | rfl)) (L_r (r_ai rfl) (L_nil ?_))
      refine ⟨⟨fx2, fx2, fx2, fx2, fx2, fx2, fx2, fx2, fx2, trivial⟩, _, rfl, rfl, ?_⟩
      refine ⟨?_, Ch.au⟩
      first
      | (refine ⟨by omega, fun _ => ?_, fun h => absurd h (by omega)⟩
         rw [hexV_dig (by assumption)]; congr 1; omega)
      | (refine ⟨by omega, fun h => ?_, fun h => ?_⟩
         · rw [hexV_low (by assumption), if_pos (by omega)]; congr 1; omega
         · rw [hexV_low (by assumption), if_neg (by omega)])
     ·
      refine W_seq (W_region ?_)
      refine L_r (r_mkif Tryz.underlying113 (fun _ h => by cases h) (v := .int _ _) rfl) (L_r (r_ai rfl) (L_r (r_av) (L_nil (W_ret ?_))))
      refine ret2 (u := .int _ _) rfl rfl (by conv => lhs; whnf) ?_
      first
      | (have hj2e : j = 2 := by omega
         obtain ⟨x, y, hx1, hy1, hx, hy, hm⟩ := hj2 hj2e
         refine ⟨m, .nilIface, rfl, .inl ⟨?_, by omega, by omega, rfl⟩, Ch.au⟩
         unfold hexP
         rw [hx, hy]
         exact congrArg (fun k => some (UInt8.ofNat k)) (by omega))
      | (have hno : hexV (bat s j) = none := by { first | exact hdg.2.2 (by omega) | (rw [hexV_low (by assumption), if_neg (by omega)]) }
         refine ⟨0, _, rfl, .inr ⟨?_, rfl⟩, Ch.au⟩
         unfold hexP
         have hj01 : j = 0 ∨ j = 1 := by omega
         rcases hj01 with rfl | rfl
         · rw [hno]
         · rw [hno]; cases hexV (bat s 0) <;> rfl)
   rintro gcb5 w9 ⟨d, hf16, hf12, hCb5⟩
   refine W_as 16 hf16 rfl ?_
   refine W_as 12 hf12 rfl ?_
   clear hf16 hf12
   obtain ⟨hdg, hnwd⟩ := hCb5
   have hdb := hdg.1
   refine W_seq (W_seq (W_region (L_r (r_mi rfl) (L_r (r_mi rfl) ?_))))
   refine L_r (r_conv Tryz.underlying3 Tryz.underlying5 rfl (by first | exact wr_u8 (by omega) | rfl)) (L_r (r_geq rfl rfl) (L_nil ?_))
   refine W_if rfl (fun h137 => ?_) (fun h137 => ?_)
   ·
    refine W_seq (W_region ?_)
    refine L_r (r_mkif Tryz.underlying113 (fun _ h => by cases h) (v := .int _ _) rfl) (L_r (r_ai rfl) (L_r (r_av) (L_nil (W_ret ?_))))
    refine ret2 (u := .int _ _) rfl rfl (by conv => lhs; whnf) ?_
    first
    | (have hj2e : j = 2 := by omega
       obtain ⟨x, y, hx1, hy1, hx, hy, hm⟩ := hj2 hj2e
       refine ⟨m, .nilIface, rfl, .inl ⟨?_, by omega, by omega, rfl⟩, Ch.au⟩
       unfold hexP
       rw [hx, hy]
       exact congrArg (fun k => some (UInt8.ofNat k)) (by omega))
    | (have hno : hexV (bat s j) = none := by { first | exact hdg.2.2 (by omega) | (rw [hexV_low (by assumption), if_neg (by omega)]) }
       refine ⟨0, _, rfl, .inr ⟨?_, rfl⟩, Ch.au⟩
       unfold hexP
       have hj01 : j = 0 ∨ j = 1 := by omega
       rcases hj01 with rfl | rfl
       · rw [hno]
       · rw [hno]; cases hexV (bat s 0) <;> rfl)
   ·
    refine W_skip (W_seq (W_seq (W_region (L_r (r_mi rfl) (L_r (r_mi rfl) (L_r (r_geq rfl rfl) ?_))))))
    refine L_as (v := .bool _) (v' := .bool false) 141 rfl (dec_f (by omega)).symm (L_nil ?_)
    refine W_false rfl (W_skip (W_seq (W_region (L_r (r_mi rfl) (L_r (r_mi rfl) ?_)))))
    refine L_r (r_conv Tryz.underlying3 Tryz.underlying26 rfl (by first | exact wr_u64 (by omega) | rfl)) ?_
    refine L_r (r_mul rfl rfl (by first | exact wr_u64 (by omega) | rfl)) (L_r (r_ai rfl) (L_nil (W_seq (W_region (L_r (r_mi rfl) (L_r (r_mi rfl) ?_))))))
    refine L_r (r_conv Tryz.underlying5 Tryz.underlying26 rfl (by first | exact wr_u64 (by omega) | rfl)) ?_
    refine L_r (r_add rfl rfl (by first | exact wr_u64 (by omega) | rfl)) (L_r (r_ai rfl) (L_nil (W_seq (W_seq (W_region (L_r (r_mi rfl) (L_r (r_mi rfl) (L_r (r_lss rfl rfl) ?_))))))))
    refine L_as (v := .bool _) (v' := .bool false) 154 rfl (dec_f (by omega)).symm (L_r (r_mb rfl) ?_)
    refine L_g (r_mi rfl) ?_
    refine L_g (r_mi rfl) ?_
    refine L_g (r_gtr rfl rfl) ?_
    refine L_as (v := .bool _) (v' := .bool false) 158 rfl (dec_f (by omega)).symm (L_r (r_pf rfl rfl) (L_nil ?_))
    refine W_false rfl (W_skip (W_region (L_r (r_mi rfl) (L_r (r_ai rfl) (L_nil (W_region ?_))))))
    refine L_r (r_add rfl rfl (by first | exact wr_i64 (by omega) | rfl)) (L_r (r_mi rfl) (L_nil ?_))
    refine ⟨⟨fx2, fx2, fx2, fx2, fx2, fx2, fx2, trivial⟩, _, ?_, j + 1, m * 16 + d, rfl, rfl, rfl, ?_, rfl⟩
    · omega
    clear hj2
    obtain ⟨hd0, hd1, hd2⟩ := hdg
    have hv := hd1 (by omega)
    refine ⟨by omega, by omega, by omega, fun h => absurd h (by omega), fun h => ?_, fun h => ?_, Ch.au⟩
    ·
     have h0 : j = 0 := by omega
     subst h0
     have hm := hj0 rfl
     exact ⟨by omega, by rw [hv]; congr 1; omega⟩
    ·
     have h1 : j = 1 := by omega
     subst h1
     obtain ⟨k1, k2⟩ := hj1 rfl
     exact ⟨m.toNat, d.toNat, by omega, by omega, k2, hv, by omega⟩
  ·
   refine W_exit ?_
   repeat (first | refine blk_hit ?_ | refine blk_miss rfl ?_)
   refine W_seq (W_seq (W_region (L_r (r_mb rfl) ?_)))
   refine L_as (v := .bool _) (v' := .bool false) 164 rfl (congrArg Value.bool (by rfl)) (L_r (r_mb rfl) (L_ps (L_ps (L_ps (L_r (r_pf rfl rfl) (L_nil ?_))))))
   refine W_false rfl (W_skip (W_seq (W_region (L_r (r_mi rfl) (L_r (r_ai rfl) (L_r (r_av) (L_nil (W_ret ?_))))))))
   refine ret2 (u := .int _ _) rfl rfl (by conv => lhs; whnf) ?_
   first
   | (have hj2e : j = 2 := by omega
      obtain ⟨x, y, hx1, hy1, hx, hy, hm⟩ := hj2 hj2e
      refine ⟨m, .nilIface, rfl, .inl ⟨?_, by omega, by omega, rfl⟩, Ch.au⟩
      unfold hexP
      rw [hx, hy]
      exact congrArg (fun k => some (UInt8.ofNat k)) (by omega))
   | (have hno : hexV (bat s j) = none := by { first | exact hdg.2.2 (by omega) | (rw [hexV_low (by assumption), if_neg (by omega)]) }
      refine ⟨0, _, rfl, .inr ⟨?_, rfl⟩, Ch.au⟩
      unfold hexP
      have hj01 : j = 0 ∨ j = 1 := by omega
      rcases hj01 with rfl | rfl
      · rw [hno]
      · rw [hno]; cases hexV (bat s 0) <;> rfl)
end Go.Proofs.YtgmeojpekdekeaaGreatDoor

namespace Go.Proofs.YtgmeojpekdekeaaGreatDoor
open Go Go.RowKit Go.Shelf
set_option linter.unusedVariables false
set_option linter.unusedSimpArgs false
set_option maxRecDepth 100000
abbrev puT : ByteArray := { data := #[80, 97, 114, 115, 101, 85, 105, 110, 116] }
theorem stoerr_use (base : Nat) (s : ByteArray) (w : World) (hs : s.size ≤ 1000000) (hE : Sv base w) : Does Tryz.prog 88 #[.string puT, .string s, .int .i64 16, .int .i64 8, .iface 113 (.int .i64 2)] w (fun r w' => (∃ a b, r = .iface a b) ∧ Nw w w') := by
  obtain ⟨e1, h1, k1⟩ := hE.syn
  refine Calls.mono (AnyPu.strconv_toError_syntax { Tryz.laysPuint with } puT s 16 8 e1 w (by omega) h1 k1) ?_
  rintro _ w' ⟨N, rfl, _, _, hw⟩
  exact ⟨_, rfl, ⟨_, _, rfl⟩, Ch.of_below hw⟩
theorem spu_walk (base : Nat) (s : ByteArray) (w0 : World) (hs : s.size = 2) (hV : Sv base w0) (hb : base ≤ w0.heap.size) : Does Tryz.prog 73 #[.string s, .int .i64 16, .int .i64 8] w0 (fun r w' => ∃ (n : Int) (e : Value), r = .tuple #[.int .u64 n, e] ∧ ((hexP (bat s 0) (bat s 1) = some (UInt8.ofNat n.toNat) ∧ 0 ≤ n ∧ n < 256 ∧ e = .nilIface) ∨ (hexP (bat s 0) (bat s 1) = none ∧ ∃ a b, e = .iface a b)) ∧ Nw w0 w') := by
  refine fn_of (n := 26) (args := [.string s, .int .i64 16, .int .i64 8]) Tryz.func73 rfl rfl rfl (W_seq (W_region (L_r (r_ai rfl) (L_r (r_av) (L_nil (W_seq (W_region (L_r (r_ms rfl) ?_))))))))
  refine L_r (r_mi rfl) (L_r (r_mi rfl) ?_)
  refine L_call (.plain rfl) rfl rfl (r_call Tryz.func89 rfl rfl rfl (by rfl)) (spui_walk s _ hs) ?_
  rintro v14 w1 ⟨n, e, rfl, hE, c1⟩
  have hz1 := c1.size
  have hifv : Ifv e := by { rcases hE with k | k; exact .inl k.2.2.2; exact .inr ⟨_, _, k.2⟩ }
  refine L_r (r_mv) (L_r (r_ext2_0 rfl) (L_r (r_ext2_1 rfl) (L_r (r_ai rfl) (L_r (r_av) (L_nil (W_seq (W_seq (W_region ?_))))))))
  refine L_r (r_mv) ?_
  refine L_r (r_neif Tryz.underlying84 (by conv => lhs; whnf) (by first | assumption | exact .inl rfl | exact .inr ⟨_, _, rfl⟩)) (L_nil ?_)
  refine W_bool rfl (fun h18 => ?_) (fun h18 => ?_)
  ·
   obtain ⟨hno, rfl⟩ : hexP (bat s 0) (bat s 1) = none ∧ e = .iface 113 (.int .i64 2) := by
     rcases hE with k | k
     · rw [k.2.2.2] at h18; exact absurd h18 (by decide)
     · exact k
   refine W_seq (W_region (L_r (r_mi rfl) (L_r (r_ms rfl) (L_r (r_mi rfl) (L_r (r_mi rfl) (L_r (r_mv) ?_))))))
   refine L_call (.plain rfl) rfl rfl (r_call Tryz.func88 rfl rfl rfl (by rfl)) (stoerr_use base s _ (by omega) (hV.nw Ch.au hb)) ?_
   rintro v24 w2 ⟨⟨ta, tb, rfl⟩, c2⟩
   have hz2 := c2.size
   refine L_r (r_ai rfl) (L_r (r_av) (L_nil (W_ret ?_)))
   refine ret2 (u := .int _ _) rfl rfl (by conv => lhs; whnf) ?_
   first
   | exact ⟨n, _, rfl, .inr ⟨hno, _, _, rfl⟩, Ch.au⟩
   | (rcases hE with k | k
      · exact ⟨n, .nilIface, rfl, .inl ⟨k.1, k.2.1, k.2.2.1, rfl⟩, Ch.au⟩
      · rw [k.2] at h18; exact absurd h18 (by decide))
  ·
   refine W_skip (W_seq (W_region (L_r (r_mi rfl) (L_r (r_ai rfl) (L_r (r_av) (L_nil (W_ret ?_)))))))
   refine ret2 (u := .int _ _) rfl rfl (by conv => lhs; whnf) ?_
   first
   | exact ⟨n, _, rfl, .inr ⟨hno, _, _, rfl⟩, Ch.au⟩
   | (rcases hE with k | k
      · exact ⟨n, .nilIface, rfl, .inl ⟨k.1, k.2.1, k.2.2.1, rfl⟩, Ch.au⟩
      · rw [k.2] at h18; exact absurd h18 (by decide))
/-! ### two by two -/
theorem drop_two (s : ByteArray) (i : Nat) (h : i + 1 < s.size) : (bs s).drop i = bat s i :: bat s (i + 1) :: (bs s).drop (i + 2) := by
  have hl : i + 1 < (bs s).length := h
  rw [List.drop_eq_getElem_cons (by omega), List.drop_eq_getElem_cons hl]
  unfold bat
  simp only [List.getD_eq_getElem?_getD, List.getElem?_eq_getElem hl, List.getElem?_eq_getElem (show i < (bs s).length by omega), Option.getD_some]
theorem two_ext (s : ByteArray) (i : Nat) (h : i + 1 < s.size) : (s.extract i (i + 2)).size = 2 ∧ bat (s.extract i (i + 2)) 0 = bat s i ∧ bat (s.extract i (i + 2)) 1 = bat s (i + 1) := by
  rw [extract_bs, drop_two s i h, show i + 2 - i = 2 by omega]
  exact ⟨rfl, rfl, rfl⟩
theorem unh_two (a b : UInt8) (r : List UInt8) : unhL (a :: b :: r) = match hexP a b with
    | some c => (unhL r).map (c :: ·)
    | none => none := by
  rw [unhL]
  cases hexP a b <;> rfl
theorem unh_end {l : List UInt8} (h : l.length ≤ 1) : unhL l = some [] := by
  match l, h with
  | [], _ => rfl
  | [a], _ => rfl
theorem u8_b8 {n : Int} (h0 : 0 ≤ n) (h1 : n < 256) : b8 (UInt8.ofNat n.toNat) = .int .u8 n := by
  unfold b8
  rw [UInt8.toNat_ofNat']
  congr 1
  omega
theorem u8_info : (Tryz.prog.info? 5).map (fun i => (i.zero, i.size, i.bytes)) = some (some (.int .u8 0), 1, 1) := rfl
set_option maxHeartbeats 2000000 in
theorem sunhex_walk (base : Nat) (s : ByteArray) (w0 : World) (hs : s.size ≤ 1000000) (hV : Sv base w0) (hb : base ≤ w0.heap.size) : Does Tryz.prog 74 #[.string s] w0 (fun r w' => ∃ b : Bool, r = .tuple #[.string (unhF s), .bool b] ∧ Nw w0 w') := by
  refine fn_of (n := 45) (args := [.string s]) Tryz.func74 rfl rfl rfl (W_seq (W_region (L_r (r_as rfl) (L_r (r_ab rfl) (L_nil (W_seq (W_seq (W_region ?_))))))))
  refine L_r (r_ms rfl) (L_r (r_eqls rfl rfl) (L_nil ?_))
  refine W_if rfl (fun h9 => ?_) (fun h9 => ?_)
  ·
   refine W_seq (W_region (L_r (r_as rfl) (L_r (r_ab rfl) (L_nil (W_ret ?_)))))
   refine ret2 (u := .string _) (v := .bool _) rfl rfl rfl ?_
   first
   | (refine ⟨true, ?_, Ch.au⟩
      unfold unhF
      rw [if_pos h9]
      done)
   | (refine ⟨false, ?_, Ch.au⟩
      unfold unhF
      rw [if_neg h9, hun, drop_two s i (by omega), unh_two, hno]
      rfl)
   | (have hD : unhF s = sb D := by
        unfold unhF
        rw [if_neg h9, hun, unh_end (by rw [List.length_drop, bs_length]; omega)]
        simp only [Option.map_some, List.append_nil, Option.getD_some]
      rw [hD]
      exact ⟨_, rfl, Ch.au⟩)
  ·
   refine W_skip (W_seq (W_region (L_r (r_av) (L_nil (W_seq (W_seq (W_region (L_r (r_ai rfl) ?_))))))))
   refine L_nil (W_block ?_)
   refine W_loopF [0] (fun mz_ f W => ∃ (i : Nat) (D : List UInt8) (v : Value), f 5 = .int .i64 i ∧ f 4 = v ∧ (i = 2 * D.length ∧ i ≤ s.size ∧ unhL (bs s) = (unhL ((bs s).drop i)).map (D ++ ·) ∧ Ow W w0.heap.size 5 1 v D.length (D.map b8) ∧ Nw w0 W) ∧ mz_ = s.size - i) ?_ ?_
   ·
    refine ⟨_, 0, [], .slice none 0 0, rfl, rfl, ?_, rfl⟩
    refine ⟨rfl, by omega, ?_, Ow.nil _ _ _ _, Ch.au⟩
    rw [List.drop_zero]
    cases unhL (bs s) <;> rfl
   rintro m0 g0 w1 ⟨i, D, v, hf5, hf4, hR0, rfl⟩
   refine W_as 5 hf5 rfl ?_
   refine W_as 4 hf4 rfl ?_
   clear hf5 hf4
   obtain ⟨hi, his, hun, hOw, hnw⟩ := hR0
   have hz := hnw.size
   refine W_seq (W_seq (W_region (L_r (r_mi rfl) ?_)))
   refine L_r (r_add rfl rfl (by first | exact wr_i64 (by omega) | rfl)) (L_r (r_ms rfl) ?_)
   refine L_r (r_lens Tryz.underlying9 rfl) (L_r (r_lss rfl rfl) (L_nil ?_))
   refine W_if rfl (fun h14 => ?_) (fun h14 => ?_)
   ·
    refine W_skip (W_seq (W_block (W_seq (W_region (L_r (r_ms rfl) (L_r (r_mi rfl) (L_r (r_mi rfl) ?_)))))))
    refine L_r (r_add rfl rfl (by first | exact wr_i64 (by omega) | rfl)) ?_
    obtain ⟨hx1, hx2, hx3⟩ := two_ext s i (by omega)
    refine L_r (r_slices Tryz.underlying9 rfl rfl rfl (by omega) (by omega) (by omega)) ?_
    refine L_call (.plain rfl) rfl rfl (r_call Tryz.func73 rfl rfl rfl (by rfl)) (spu_walk base (s.extract i (i + 2)) _ hx1 (hV.nw Ch.au hb) (by omega)) ?_
    rintro v23 w2 ⟨n, e, rfl, hE, c2⟩
    have hz2 := c2.size
    have hifv : Ifv e := by { rcases hE with k | ⟨_, k⟩; exact .inl k.2.2.2; exact .inr k }
    rw [hx2, hx3] at hE
    refine L_r (r_mv) (L_r (r_ext2_0 rfl) (L_r (r_ext2_1 rfl) (L_r (r_ai rfl) (L_r (r_av) (L_nil (W_seq (W_seq (W_region ?_))))))))
    refine L_r (r_mv) ?_
    refine L_r (r_neif Tryz.underlying84 (by conv => lhs; whnf) (by first | assumption | exact .inl rfl | exact .inr ⟨_, _, rfl⟩)) (L_nil ?_)
    refine W_bool rfl (fun h27 => ?_) (fun h27 => ?_)
    ·
     have hno : hexP (bat s i) (bat s (i + 1)) = none := by
       rcases hE with k | k
       · rw [k.2.2.2] at h27; exact absurd h27 (by decide)
       · exact k.1
     refine W_seq (W_region (L_r (r_as rfl) (L_r (r_ab rfl) (L_nil (W_ret ?_)))))
     refine ret2 (u := .string _) (v := .bool _) rfl rfl rfl ?_
     first
     | (refine ⟨true, ?_, Ch.au⟩
        unfold unhF
        rw [if_pos h9]
        done)
     | (refine ⟨false, ?_, Ch.au⟩
        unfold unhF
        rw [if_neg h9, hun, drop_two s i (by omega), unh_two, hno]
        rfl)
     | (have hD : unhF s = sb D := by
          unfold unhF
          rw [if_neg h9, hun, unh_end (by rw [List.length_drop, bs_length]; omega)]
          simp only [Option.map_some, List.append_nil, Option.getD_some]
        rw [hD]
        exact ⟨_, rfl, Ch.au⟩)
    ·
     replace hE : hexP (bat s i) (bat s (i + 1)) = some (UInt8.ofNat n.toNat) ∧ 0 ≤ n ∧ n < 256 ∧ e = .nilIface := by
       rcases hE with k | ⟨_, a, b, k⟩
       · exact k
       · rw [k] at h27; simp [nif] at h27
     obtain ⟨hE1, hE2, hE3, hE4⟩ := id hE
     refine W_skip (W_region (L_r (r_mv) (L_r (r_mi rfl) ?_)))
     refine L_r (r_conv Tryz.underlying26 Tryz.underlying5 rfl (by first | exact wr_u8 (by omega) | rfl)) ?_
     refine L_build1 [.int _ _] Tryz.underlying94 rfl rfl rfl (.plain rfl) rfl (by rfl) (by rfl) (by rfl) (fun b31 w3 hb31 hv31 eb3 hs3 c3 => ?_)
     refine L_apow Tryz.underlying94 u8_info rfl (by decide) (.plain rfl) rfl (by conv => lhs; whnf) (by conv => lhs; whnf) Ow.au Sl.au (by intro y hy; simp at hy; subst hy; rfl) (by unfold maxLen; omega) (by omega) (by omega) (fun v32 w4 ho32 c4 hob32 => ?_)
     have hz4 := c4.size
     refine L_r (r_av) (L_nil (W_region (L_r (r_mi rfl) ?_)))
     refine L_r (r_add rfl rfl (by first | exact wr_i64 (by omega) | rfl)) (L_r (r_ai rfl) (L_nil ?_))
     refine ⟨⟨fx2, trivial⟩, _, ?_, i + 2, D ++ [UInt8.ofNat n.toNat], v32, rfl, rfl, ?_, rfl⟩
     · omega
     refine ⟨by rw [List.length_append, List.length_singleton]; omega, by omega, ?_, ?_, Ch.au⟩
     ·
      rw [hun, drop_two s i (by omega), unh_two, hE.1]
      simp only [Option.map_map]
      congr 1
      funext z
      simp
     ·
      rw [List.length_append, List.length_singleton, List.map_append, List.map_singleton, u8_b8 hE.2.1 hE.2.2.1]
      (exact Ow.au)
   ·
    refine W_exit ?_
    repeat (first | refine blk_hit ?_ | refine blk_miss rfl ?_)
    refine W_seq ?_
    refine W_draw (fun W => Sl W v 1 D.length (D.map b8)) 14 (m := 14) (by kernel_rfl) rfl (fun w5 c5 hs5 => ?_)
    refine held Sl.au (fun hS => ?_)
    refine D_t 0 rfl (fun W hW => r_mv) ?_
    refine D_t 1 rfl (fun W hW => r_bstr Tryz.underlying94 Tryz.underlying5 Tryz.underlying9 (by conv => lhs; whnf) (by exact hW)) ?_
    refine D_t 2 rfl (fun W hW => r_mv) ?_
    refine D_t 3 rfl (fun W hW => r_lenSl Tryz.underlying94 (by conv => lhs; whnf) (by exact hW)) ?_
    refine D_t 4 rfl (fun W hW => r_gtr rfl rfl) ?_
    refine D_t 5 rfl (fun W hW => r_mb rfl) ?_
    refine D_case (d := 38) rfl (fun h38 => ?_) (fun h38 => ?_)
    ·
     refine D_g 6 rfl (fun W hW => r_mv) ?_
     refine D_g 7 rfl (fun W hW => r_bstr Tryz.underlying94 Tryz.underlying5 Tryz.underlying9 (by conv => lhs; whnf) (by exact hW)) ?_
     refine D_g 9 rfl (fun W hW => r_ms rfl) ?_
     refine D_ev 8 (by kernel_rfl) rfl ?_
     refine L_call (.yes 5 true rfl rfl) rfl rfl (r_call Tryz.func42 rfl rfl rfl (by rfl)) (shex_walk (sb D) _ (by have := sb_size D; omega)) ?_
     rintro v41 w6 ⟨rfl, c6⟩
     have hz6 := c6.size
     refine L_nil ?_
     refine heldK Sl.au (fun hS => ?_)
     refine D_g 10 rfl (fun W hW => r_eqls rfl rfl) ?_
     refine D_t 11 rfl (fun W hW => r_pt rfl rfl) ?_
     refine D_t 12 rfl (fun W hW => r_as rfl) ?_
     refine D_t 13 rfl (fun W hW => r_ab rfl) ?_
     refine D_done (by kernel_rfl) (W_ret ?_)
     refine ret2 (u := .string _) (v := .bool _) rfl rfl rfl ?_
     first
     | (refine ⟨true, ?_, Ch.au⟩
        unfold unhF
        rw [if_pos h9]
        done)
     | (refine ⟨false, ?_, Ch.au⟩
        unfold unhF
        rw [if_neg h9, hun, drop_two s i (by omega), unh_two, hno]
        rfl)
     | (have hD : unhF s = sb D := by
          unfold unhF
          rw [if_neg h9, hun, unh_end (by rw [List.length_drop, bs_length]; omega)]
          simp only [Option.map_some, List.append_nil, Option.getD_some]
        rw [hD]
        exact ⟨_, rfl, Ch.au⟩)
    ·
     refine D_ps 6 rfl ?_
     refine D_ps 7 rfl ?_
     refine D_ps 8 rfl ?_
     refine D_ps 9 rfl ?_
     refine D_ps 10 rfl ?_
     refine D_t 11 rfl (fun W hW => r_pf rfl rfl) ?_
     refine D_t 12 rfl (fun W hW => r_as rfl) ?_
     refine D_t 13 rfl (fun W hW => r_ab rfl) ?_
     refine D_done (by kernel_rfl) (W_ret ?_)
     refine ret2 (u := .string _) (v := .bool _) rfl rfl rfl ?_
     first
     | (refine ⟨true, ?_, Ch.au⟩
        unfold unhF
        rw [if_pos h9]
        done)
     | (refine ⟨false, ?_, Ch.au⟩
        unfold unhF
        rw [if_neg h9, hun, drop_two s i (by omega), unh_two, hno]
        rfl)
     | (have hD : unhF s = sb D := by
          unfold unhF
          rw [if_neg h9, hun, unh_end (by rw [List.length_drop, bs_length]; omega)]
          simp only [Option.map_some, List.append_nil, Option.getD_some]
        rw [hD]
        exact ⟨_, rfl, Ch.au⟩)
end Go.Proofs.YtgmeojpekdekeaaGreatDoor

namespace Go.Proofs.YtgmeojpekdekeaaGreatDoor
open Go Go.RowKit Go.Shelf
set_option linter.unusedVariables false
set_option linter.unusedSimpArgs false
set_option maxRecDepth 100000
theorem pre64 (s : ByteArray) : Lib.hasPrefix (bs s) (bs { data := #[64] }) = true ↔ (bs s).head? = some 64 := by
  show List.isPrefixOf [64] (bs s) = true ↔ _
  cases bs s with
  | nil => simp
  | cons c l => simp [List.isPrefixOf]; exact eq_comm
theorem head_size {s : ByteArray} {c : UInt8} (h : (bs s).head? = some c) : 1 ≤ s.size := by
  rw [← bs_length]
  cases hq : bs s with
  | nil => rw [hq] at h; cases h
  | cons c l => simp
theorem sargu_walk (base : Nat) (s : ByteArray) (w0 : World) (hs : s.size ≤ 1000000) (hV : Sv base w0) (hb : base ≤ w0.heap.size) : Does Tryz.prog 75 #[.string s] w0 (fun r w' => r = (parA s).v ∧ Nw w0 w') := by
  refine fn_of (n := 37) (args := [.string s]) Tryz.func75 rfl rfl rfl (W_seq (W_region ?_))
  refine L_new (.plain rfl) rfl rfl (r_alloca rfl) (fun w1 b2 hb2 eb1 hs1 c1 => (L_nil (W_seq (W_block (W_seq (W_region (L_r (r_ms rfl) (L_r (r_eqls rfl rfl) ?_))))))))
  refine L_r (r_ab rfl) (L_nil ?_)
  refine W_if rfl (fun h7 => ?_) (fun h7 => ?_)
  ·
   refine W_seq (W_region ?_)
   refine L_r (r_build1 (pl := [(0, 1), (1, 1), (2, 1), (3, 1)]) (vs := []) (cells := [_, _, _, _]) Tryz.underlying43 rfl rfl (by rfl) rfl (by rfl)) ?_
   refine L_storerow (.plain rfl) rfl rfl Bk.au (by first | rfl | (simp; done) | assumption) (by first | rfl | assumption) (by first | rfl | (simp [Value.oneCell']; done) | assumption) (fun w2 hb2 hs2 c2 => (L_nil (W_ret ?_)))
   refine r_ret_row rfl rfl Tryz.underlying43 rfl Bk.au (by first | rfl | assumption) ?_
   refine ⟨?_, Ch.au⟩
   unfold parA
   first
   | (rw [if_pos (by assumption)]; done)
   | (rw [if_neg (by assumption), if_pos (by assumption)]; done)
   | (rw [if_neg (by assumption), if_neg (by assumption), if_pos (by assumption)]; done)
   | (rw [if_neg (by assumption), if_neg (by assumption), if_neg (by assumption), if_pos hh]
      have e1 : bs (s.extract 1 s.size) = (bs s).tail := by rw [extract_bs, bs_sb, List.take_of_length_le (by rw [List.length_drop, bs_length]; omega), List.drop_one]
      exact congrArg (fun k => Va.v ⟨4, 0, mtB, atoiF k⟩) e1)
   | (rw [if_neg (by assumption), if_neg (by assumption), if_neg (by assumption), if_neg hh]; done)
  ·
   refine W_seq (W_region (L_r (r_ms rfl) (L_r (r_eqls rfl rfl) (L_r (r_ab rfl) (L_nil ?_)))))
   refine W_if rfl (fun h11 => ?_) (fun h11 => ?_)
   ·
    refine W_seq (W_region ?_)
    refine L_r (r_build1 (pl := [(0, 1), (1, 1), (2, 1), (3, 1)]) (vs := [(0, .int _ _), (1, .int _ _)]) (cells := [_, _, _, _]) Tryz.underlying43 rfl rfl (by rfl) rfl (by rfl)) ?_
    refine L_storerow (.plain rfl) rfl rfl Bk.au (by first | rfl | (simp; done) | assumption) (by first | rfl | assumption) (by first | rfl | (simp [Value.oneCell']; done) | assumption) (fun w3 hb3 hs3 c3 => (L_nil (W_ret ?_)))
    refine r_ret_row rfl rfl Tryz.underlying43 rfl Bk.au (by first | rfl | assumption) ?_
    refine ⟨?_, Ch.au⟩
    unfold parA
    first
    | (rw [if_pos (by assumption)]; done)
    | (rw [if_neg (by assumption), if_pos (by assumption)]; done)
    | (rw [if_neg (by assumption), if_neg (by assumption), if_pos (by assumption)]; done)
    | (rw [if_neg (by assumption), if_neg (by assumption), if_neg (by assumption), if_pos hh]
       have e1 : bs (s.extract 1 s.size) = (bs s).tail := by rw [extract_bs, bs_sb, List.take_of_length_le (by rw [List.length_drop, bs_length]; omega), List.drop_one]
       exact congrArg (fun k => Va.v ⟨4, 0, mtB, atoiF k⟩) e1)
    | (rw [if_neg (by assumption), if_neg (by assumption), if_neg (by assumption), if_neg hh]; done)
   ·
    refine W_seq (W_region (L_r (r_ms rfl) (L_r (r_eqls rfl rfl) (L_r (r_ab rfl) (L_nil ?_)))))
    refine W_if rfl (fun h15 => ?_) (fun h15 => ?_)
    ·
     refine W_seq (W_region ?_)
     refine L_r (r_build1 (pl := [(0, 1), (1, 1), (2, 1), (3, 1)]) (vs := [(0, .int _ _)]) (cells := [_, _, _, _]) Tryz.underlying43 rfl rfl (by rfl) rfl (by rfl)) ?_
     refine L_storerow (.plain rfl) rfl rfl Bk.au (by first | rfl | (simp; done) | assumption) (by first | rfl | assumption) (by first | rfl | (simp [Value.oneCell']; done) | assumption) (fun w4 hb4 hs4 c4 => (L_nil (W_ret ?_)))
     refine r_ret_row rfl rfl Tryz.underlying43 rfl Bk.au (by first | rfl | assumption) ?_
     refine ⟨?_, Ch.au⟩
     unfold parA
     first
     | (rw [if_pos (by assumption)]; done)
     | (rw [if_neg (by assumption), if_pos (by assumption)]; done)
     | (rw [if_neg (by assumption), if_neg (by assumption), if_pos (by assumption)]; done)
     | (rw [if_neg (by assumption), if_neg (by assumption), if_neg (by assumption), if_pos hh]
        have e1 : bs (s.extract 1 s.size) = (bs s).tail := by rw [extract_bs, bs_sb, List.take_of_length_le (by rw [List.length_drop, bs_length]; omega), List.drop_one]
        exact congrArg (fun k => Va.v ⟨4, 0, mtB, atoiF k⟩) e1)
     | (rw [if_neg (by assumption), if_neg (by assumption), if_neg (by assumption), if_neg hh]; done)
    ·
     refine W_seq (W_region (L_r (r_ms rfl) ?_))
     refine L_call (.plain rfl) rfl rfl (r_call Tryz.func38 rfl rfl rfl (by rfl)) (shp_use s _ _) ?_
     rintro v21 w5 ⟨rfl, rfl⟩
     refine L_r (r_ab rfl) (L_nil ?_)
     refine W_bool rfl (fun h19 => ?_) (fun h19 => ?_)
     ·
      have hh := (pre64 s).1 h19
      have hs1 := head_size hh
      refine W_seq (W_region (L_r (r_ms rfl) ?_))
      refine L_r (r_slices_l Tryz.underlying9 rfl rfl (by omega) (by omega)) ?_
      refine L_call (.plain rfl) rfl rfl (r_call Tryz.func72 rfl rfl rfl (by rfl)) (satoi_use base _ _ (by rw [ByteArray.size_extract]; omega) (hV.nw Ch.au hb)) ?_
      rintro v25 w6 ⟨e, rfl, c6⟩
      have hz6 := c6.size
      refine L_r (r_mv) (L_r (r_ext2_0 rfl) (L_r (r_ext2_1 rfl) (L_r (r_ai rfl) (L_r (r_av) (L_nil (W_seq (W_region (L_r (r_mi rfl) ?_))))))))
      refine L_r (r_build1 (pl := [(0, 1), (1, 1), (2, 1), (3, 1)]) (vs := [(0, .int _ _), (3, .int _ _)]) (cells := [_, _, _, _]) Tryz.underlying43 rfl rfl (by rfl) rfl (by rfl)) ?_
      refine L_storerow (.plain rfl) rfl rfl Bk.au (by first | rfl | (simp; done) | assumption) (by first | rfl | assumption) (by first | rfl | (simp [Value.oneCell']; done) | assumption) (fun w7 hb7 hs7 c7 => (L_nil (W_ret ?_)))
      refine r_ret_row rfl rfl Tryz.underlying43 rfl Bk.au (by first | rfl | assumption) ?_
      refine ⟨?_, Ch.au⟩
      unfold parA
      first
      | (rw [if_pos (by assumption)]; done)
      | (rw [if_neg (by assumption), if_pos (by assumption)]; done)
      | (rw [if_neg (by assumption), if_neg (by assumption), if_pos (by assumption)]; done)
      | (rw [if_neg (by assumption), if_neg (by assumption), if_neg (by assumption), if_pos hh]
         have e1 : bs (s.extract 1 s.size) = (bs s).tail := by rw [extract_bs, bs_sb, List.take_of_length_le (by rw [List.length_drop, bs_length]; omega), List.drop_one]
         exact congrArg (fun k => Va.v ⟨4, 0, mtB, atoiF k⟩) e1)
      | (rw [if_neg (by assumption), if_neg (by assumption), if_neg (by assumption), if_neg hh]; done)
     ·
      have hh : ¬ (bs s).head? = some 64 := fun e => by rw [(pre64 s).2 e] at h19; cases h19
      refine W_skip (W_seq (W_region (L_r (r_ms rfl) ?_)))
      refine L_call (.plain rfl) rfl rfl (r_call Tryz.func90 rfl rfl rfl (by rfl)) (sparse_use base s _ hs (hV.nw Ch.au hb)) ?_
      rintro v32 w8 ⟨e, rfl, c8⟩
      have hz8 := c8.size
      refine L_r (r_mv) (L_r (r_ext2_0 rfl) (L_r (r_ext2_1 rfl) (L_r (r_ai rfl) (L_r (r_av) (L_nil (W_seq (W_region (L_r (r_mi rfl) ?_))))))))
      refine L_r (r_build1 (pl := [(0, 1), (1, 1), (2, 1), (3, 1)]) (vs := [(0, .int _ _), (1, .int _ _)]) (cells := [_, _, _, _]) Tryz.underlying43 rfl rfl (by rfl) rfl (by rfl)) ?_
      refine L_storerow (.plain rfl) rfl rfl Bk.au (by first | rfl | (simp; done) | assumption) (by first | rfl | assumption) (by first | rfl | (simp [Value.oneCell']; done) | assumption) (fun w9 hb9 hs9 c9 => (L_nil (W_ret ?_)))
      refine r_ret_row rfl rfl Tryz.underlying43 rfl Bk.au (by first | rfl | assumption) ?_
      refine ⟨?_, Ch.au⟩
      unfold parA
      first
      | (rw [if_pos (by assumption)]; done)
      | (rw [if_neg (by assumption), if_pos (by assumption)]; done)
      | (rw [if_neg (by assumption), if_neg (by assumption), if_pos (by assumption)]; done)
      | (rw [if_neg (by assumption), if_neg (by assumption), if_neg (by assumption), if_pos hh]
         have e1 : bs (s.extract 1 s.size) = (bs s).tail := by rw [extract_bs, bs_sb, List.take_of_length_le (by rw [List.length_drop, bs_length]; omega), List.drop_one]
         exact congrArg (fun k => Va.v ⟨4, 0, mtB, atoiF k⟩) e1)
      | (rw [if_neg (by assumption), if_neg (by assumption), if_neg (by assumption), if_neg hh]; done)
/-! ### words -/
/-- The words to come: a slice in a block, over a row of texts. -/
def WsAt (W : World) (p b0 : Nat) (L : List ByteArray) : Prop := ∃ v cs, Bk W p #[v] 78 ∧ Sl W v 1 L.length (txs L) ∧ v.ownBlock = some b0 ∧ Bk W b0 cs 9
theorem WsAt.ch {T : Nat → Prop} {W W' : World} {p b0 : Nat} {L : List ByteArray} (h : WsAt W p b0 L) (c : Ch T W W') (hp : ¬ T p) (hb : ¬ T b0) : WsAt W' p b0 L := by
  obtain ⟨v, cs, h1, h2, h3, h4⟩ := h
  exact ⟨v, cs, h1.ch c hp, h2.ch c (fun b e => by rw [h3] at e; injection e with e; subst e; exact hb), h3, h4.ch c hb⟩
theorem WsAt.nw {W W' : World} {p b0 : Nat} {L : List ByteArray} (h : WsAt W p b0 L) (c : Nw W W') : WsAt W' p b0 L := h.ch c not_no not_no
theorem WsAt.ne {W : World} {p b0 : Nat} {L : List ByteArray} (h : WsAt W p b0 L) : p ≠ b0 := by
  obtain ⟨v, cs, h1, h2, h3, h4⟩ := h
  exact Bk.ne h1 h4 (by decide)
theorem WsAt.lt {W : World} {p b0 : Nat} {L : List ByteArray} (h : WsAt W p b0 L) : p < W.heap.size ∧ b0 < W.heap.size := by
  obtain ⟨v, cs, h1, h2, h3, h4⟩ := h
  exact ⟨h1.lt, h4.lt⟩
theorem sstr_info2 : (Tryz.prog.info? 9).map (fun i => (i.zero, i.size, i.bytes)) = some (some (.string ByteArray.empty), 1, 16) := rfl
theorem splW_B (s : ByteArray) : Lib.splitB { data := #[32] } 0 (Lib.countB s { data := #[32] }) s = splW s := by
  have h := Lib.splitB_data { data := #[32] } 0 (Lib.countB s { data := #[32] }) s
  unfold splW Lib.split
  show _ = (Lib.splitK [32] 0 (Lib.count (bs s) [32]) (bs s)).map sb
  have h2 : (Lib.splitB { data := #[32] } 0 (Lib.countB s { data := #[32] }) s).map (·.data.toList) = Lib.splitK [32] 0 (Lib.count (bs s) [32]) (bs s) := h
  rw [← h2, List.map_map]
  exact ((List.map_congr_left fun x _ => sb_bs x).trans (List.map_id _)).symm
theorem ssplit_use (base : Nat) (s : ByteArray) (w : World) (hs : s.size ≤ 1000000) (hV : Sv base w) : Does Tryz.prog 69 #[.string s, .string { data := #[32] }] w (fun r w' => r.ownBlock = some w.heap.size ∧ Sl w' r 1 (splW s).length (txs (splW s)) ∧ Bk w' w.heap.size (txs (splW s)).toArray 9 ∧ w'.heap.size = w.heap.size + 1 ∧ Nw w w') := by
  obtain ⟨m, hm⟩ := hV.mx
  have hlen := Lib.splitB_all { data := #[32] } (by decide) 0 _ s rfl
  rw [splW_B] at hlen
  refine Calls.mono (Any.strings_Split Tryz.laysSplit sstr_info2 s { data := #[32] } m w (by omega) hm (by decide)) ?_
  rintro _ w' ⟨rfl, rfl⟩
  rw [splW_B]
  refine ⟨_, rfl, rfl, ?_, .new _ _ _, by simp, .alloc _ _⟩
  rw [hlen]
  refine ⟨by simp [txs, hlen], .inr ⟨_, 0, _, _, _, rfl, Nat.le_refl _, (Bk.new _ _ _).rk, fun i x hx => ?_⟩⟩
  rw [Nat.zero_add]
  simpa [txs] using hx
theorem nxW_cons {L : List ByteArray} (h : L ≠ []) : (txs L)[0]? = some (.string (nxW L)) := by
  cases L with
  | nil => exact absurd rfl h
  | cons a l => rfl
theorem snext_walk (p b0 : Nat) (L : List ByteArray) (w0 : World) (h : WsAt w0 p b0 L) (hl : L.length ≤ 1000000000) : Does Tryz.prog 70 #[.pointer (some ⟨p, 0, none⟩)] w0 (fun r w' => r = .string (nxW L) ∧ WsAt w' p b0 L.tail ∧ w'.heap.size = w0.heap.size ∧ Ch (fun j => j = p) w0 w') := by
  have hne := h.ne
  have hlt := h.lt
  obtain ⟨v, cs, h1, h2, h3, h4⟩ := id h
  refine fn_of (n := 12) (args := [.pointer (some ⟨p, 0, none⟩)]) Tryz.func70 rfl rfl rfl (W_seq (W_region (L_r (r_as rfl) (L_nil (W_seq (W_seq (W_region (L_r (r_lb rfl rfl) ?_))))))))
  refine L_r (r_lenSl Tryz.underlying78 (by conv => lhs; whnf) Sl.au) (L_r (r_eql rfl rfl) (L_nil ?_))
  refine W_if rfl (fun h5 => ?_) (fun h5 => ?_)
  ·
   refine W_seq (W_region (L_r (r_as rfl) (L_nil (W_ret ?_))))
   refine ret1 (v := .string _) rfl rfl ?_
   first
   | (have hL : L = [] := List.length_eq_zero_iff.1 (by omega)
      subst hL
      exact ⟨rfl, h.nw Ch.au, by omega, Ch.au⟩)
   | (refine ⟨rfl, ⟨v10, cs, Bk.au, ?_, ho10.trans h3, Bk.au⟩, by omega, Ch.au⟩
      cases L with
      | nil => exact absurd rfl hL
      | cons a l => exact Sl.ch (by assumption) (fun b e => by rw [ho10, h3] at e; injection e with e; subst e; exact fun q => hne q.symm) (Sl.nw Ch.au hv10))
  ·
   have hL : L ≠ [] := fun e => by subst e; exact h5 rfl
   have hrow := nxW_cons hL
   refine W_skip (W_seq (W_region (L_r (r_lb rfl rfl) ?_)))
   refine L_r (r_ix Tryz.underlying78 (show _ = some 1 from rfl) (by conv => lhs; whnf) rfl Sl.au) ?_
   refine L_r (r_loadSl rfl rfl Sl.au (by exact hrow)) (L_r (r_as rfl) (L_nil (W_seq (W_region (L_r (r_lb rfl rfl) ?_)))))
   refine L_pure (.plain rfl) rfl rfl (cut_l (w := w0) Tryz.underlying78 (show _ = some 1 from rfl) (by conv => lhs; whnf) Sl.au rfl (by omega) (by omega)) ?_
   rintro v10 ⟨hv10, ho10⟩
   refine L_set (.plain rfl) rfl Bk.au (r_store rfl rfl (by conv => lhs; whnf) (by first | rfl | exact ow_one (by assumption) | exact own_one (by assumption) | exact sl_one (by assumption)) Bk.au (by first | decide | (simp; done) | omega)) (fun w1 hb1 hs1 c1 => ?_)
   try simp only [List.setIfInBounds_toArray, List.set_cons_zero, List.set_cons_succ] at hb1
   refine L_nil (W_seq (W_region (L_r (r_ms rfl) (L_r (r_as rfl) (L_nil (W_ret ?_))))))
   refine ret1 (v := .string _) rfl rfl ?_
   first
   | (have hL : L = [] := List.length_eq_zero_iff.1 (by omega)
      subst hL
      exact ⟨rfl, h.nw Ch.au, by omega, Ch.au⟩)
   | (refine ⟨rfl, ⟨v10, cs, Bk.au, ?_, ho10.trans h3, Bk.au⟩, by omega, Ch.au⟩
      cases L with
      | nil => exact absurd rfl hL
      | cons a l => exact Sl.ch (by assumption) (fun b e => by rw [ho10, h3] at e; injection e with e; subst e; exact fun q => hne q.symm) (Sl.nw Ch.au hv10))
theorem snum_walk (base p b0 q : Nat) (L : List ByteArray) (w0 : World) (h : WsAt w0 p b0 L) (hl : L.length ≤ 1000000000) (hs : (nxW L).size ≤ 1000000) (hq : Bk w0 q #[.func (.func 70) #[] #[.pointer (some ⟨p, 0, none⟩)]] 82) (hV : Sv base w0) (hb : base ≤ w0.heap.size) (hp : base ≤ p) : Does Tryz.prog 71 #[.pointer (some ⟨q, 0, none⟩)] w0 (fun r w' => r = .int .i64 (atoiF (bs (nxW L))) ∧ WsAt w' p b0 L.tail ∧ Ch (fun j => j = p) w0 w') := by
  refine fn_of (n := 11) (args := [.pointer (some ⟨q, 0, none⟩)]) Tryz.func71 rfl rfl rfl (W_seq (W_region (L_r (r_ai rfl) (L_nil (W_seq (W_region (L_r (r_lb rfl rfl) ?_)))))))
  refine L_call (.plain rfl) rfl rfl (r_call Tryz.func70 rfl rfl rfl (by rfl)) (snext_walk p b0 L _ (h.nw Ch.au) hl) ?_
  rintro v6 w1 ⟨rfl, hws1, hz1, c1⟩
  have hz1 := c1.size
  refine L_call (.plain rfl) rfl rfl (r_call Tryz.func72 rfl rfl rfl (by rfl)) (satoi_use base (nxW L) _ hs (hV.ch (show Ch (fun j => j = p) w0 _ from Ch.au) hb (fun i e => by omega))) ?_
  rintro v7 w2 ⟨e, rfl, c2⟩
  have hz2 := c2.size
  refine L_r (r_mv) (L_r (r_ext2_0 rfl) (L_r (r_ext2_1 rfl) (L_r (r_ai rfl) (L_r (r_av) (L_nil (W_seq (W_region (L_r (r_mi rfl) ?_))))))))
  refine L_r (r_ai rfl) (L_nil (W_ret ?_))
  refine ret1 (v := .int _ _) rfl rfl ?_
  exact ⟨rfl, by first | assumption | exact WsAt.nw (by assumption) (by assumption), Ch.au⟩
end Go.Proofs.YtgmeojpekdekeaaGreatDoor

namespace Go.Proofs.YtgmeojpekdekeaaGreatDoor
open Go Go.RowKit Go.Shelf
set_option linter.unusedVariables false
set_option linter.unusedSimpArgs false
set_option maxRecDepth 100000
def stA (k : ByteArray) (ws : List ByteArray) (a : Nat) : List ByteArray × Dd := ((bs (hasF k)).take a).foldl stp (ws, Dd.zero k)
theorem stA_succ (k : ByteArray) (ws : List ByteArray) (a : Nat) (h : a < (hasF k).size) : stA k ws (a + 1) = stp (stA k ws a) (bat (hasF k) a) := by
  have hl : a < (bs (hasF k)).length := h
  unfold stA bat
  rw [List.take_succ_eq_append_getElem hl, List.foldl_append]
  simp [List.getD_eq_getElem?_getD, List.getElem?_eq_getElem hl]
theorem parD_st {s k : ByteArray} {ws : List ByteArray} (h : splW s = k :: ws) : parD s = (stA k ws (hasF k).size).2 := by
  have e : (bs (hasF k)).take (hasF k).size = bs (hasF k) := List.take_of_length_le (Nat.le_refl _)
  unfold parD stA
  rw [h, e]
  rfl
theorem splK_ne (sep : List UInt8) (k : Nat) (l : List UInt8) : Lib.splitK sep 0 k l ≠ [] := by
  cases k with
  | zero => simp [Lib.splitK]
  | succ k => unfold Lib.splitK; split <;> simp
theorem splK_len (sep : List UInt8) : ∀ (k : Nat) (l : List UInt8), ∀ x ∈ Lib.splitK sep 0 k l, x.length ≤ l.length
  | 0, l, x, hx => by simp [Lib.splitK] at hx; subst hx; exact Nat.le_refl _
  | k + 1, l, x, hx => by
    unfold Lib.splitK at hx
    split at hx
    · simp at hx; subst hx; exact Nat.le_refl _
    ·
     rcases List.mem_cons.1 hx with rfl | hx
     · rw [List.length_take]; omega
     ·
      have := splK_len sep k _ x hx
      rw [List.length_drop] at this; omega
theorem splW_ne (s : ByteArray) : ∃ k ws, splW s = k :: ws := by
  have h := splK_ne [32] (Lib.count (bs s) [32]) (bs s)
  cases e : splW s with
  | nil => unfold splW Lib.split at e; exact absurd (List.map_eq_nil_iff.1 e) h
  | cons k ws => exact ⟨k, ws, rfl⟩
theorem splW_size (s : ByteArray) : ∀ x ∈ splW s, x.size ≤ s.size := by
  intro x hx
  obtain ⟨y, hy, rfl⟩ := List.mem_map.1 hx
  rw [sb_size, ← bs_length]
  exact splK_len _ _ _ y hy
theorem splW_len (s : ByteArray) : (splW s).length ≤ s.size + 1 := by
  have h := Lib.splitB_all { data := #[32] } (by decide) 0 _ s rfl
  have h2 := Lib.countB_le { data := #[32] } (by decide) s.size s (Nat.le_refl _)
  rw [splW_B] at h
  omega
/-- The words are not too long or many. -/
def wsP (L : List ByteArray) : Prop := L.length ≤ 1000001 ∧ ∀ x ∈ L, x.size ≤ 1000000
theorem wsP.nx {L : List ByteArray} (h : wsP L) : (nxW L).size ≤ 1000000 := by
  cases L with
  | nil => show (0 : Nat) ≤ _; omega
  | cons a l => exact h.2 a List.mem_cons_self
theorem wsP.tail {L : List ByteArray} (h : wsP L) : wsP L.tail := ⟨by rw [List.length_tail]; have := h.1; omega, fun x hx => h.2 x (List.mem_of_mem_tail hx)⟩
theorem wsP.drop {L : List ByteArray} (h : wsP L) (j : Nat) : wsP (L.drop j) := ⟨by rw [List.length_drop]; have := h.1; omega, fun x hx => h.2 x (List.mem_of_mem_drop hx)⟩
theorem wsP.spl {s k : ByteArray} {ws : List ByteArray} (hs : s.size ≤ 1000000) (h : splW s = k :: ws) : wsP ws := by
  have h1 := splW_len s
  rw [h, List.length_cons] at h1
  exact ⟨by omega, fun x hx => Nat.le_trans (splW_size s x (by rw [h]; exact List.mem_cons_of_mem _ hx)) hs⟩
section
variable (L : List ByteArray) (d : Dd) {c : UInt8}
theorem stpS (h : (c.toNat : Int) = 115) : stp (L, d) c = (L.tail, { d with side := atoiF (bs (nxW L)) }) := by rw [u8_of (n := 115) (by omega) h]; rfl
theorem stpO (h : (c.toNat : Int) = 111) : stp (L, d) c = (L.tail, { d with obj := uintF (bs (nxW L)) }) := by rw [u8_of (n := 111) (by omega) h]; rfl
theorem stpM (h : (c.toNat : Int) = 109) : stp (L, d) c = (L.tail, { d with method := nxW L }) := by rw [u8_of (n := 109) (by omega) h]; rfl
theorem stpN (h : (c.toNat : Int) = 110) : stp (L, d) c = (L.tail, { d with n := atoiF (bs (nxW L)) }) := by rw [u8_of (n := 110) (by omega) h]; rfl
theorem stpT (h : (c.toNat : Int) = 116) : stp (L, d) c = (L.tail, { d with at' := atoiF (bs (nxW L)) }) := by rw [u8_of (n := 116) (by omega) h]; rfl
theorem stpR (h : (c.toNat : Int) = 114) : stp (L, d) c = (L.tail, { d with ref := atoiF (bs (nxW L)) }) := by rw [u8_of (n := 114) (by omega) h]; rfl
theorem stpC (h : (c.toNat : Int) = 99) : stp (L, d) c = (L.tail, { d with cls := nxW L }) := by rw [u8_of (n := 99) (by omega) h]; rfl
theorem stpB (h : (c.toNat : Int) = 98) : stp (L, d) c = (L.tail, { d with bytes := unhF (nxW L) }) := by rw [u8_of (n := 98) (by omega) h]; rfl
theorem stpA (h : (c.toNat : Int) = 97) : stp (L, d) c = (L.drop (9 - d.args.length), { d with args := d.args ++ (L.take (9 - d.args.length)).map parA }) := by rw [u8_of (n := 97) (by omega) h]; rfl
/-- As many words as there are, and room for. -/
theorem stpA_at (h : (c.toNat : Int) = 97) (j : Nat) (h1 : j ≤ L.length) (h2 : d.args.length + j ≤ 9) (h3 : L.drop j = [] ∨ d.args.length + j = 9) : stp (L, d) c = (L.drop j, { d with args := d.args ++ (L.take j).map parA }) := by
  rw [stpA L d h]
  rcases h3 with h3 | h3
  ·
   have hj : L.length ≤ j := List.drop_eq_nil_iff.1 h3
   rw [List.drop_eq_nil_of_le (show L.length ≤ 9 - d.args.length by omega), h3, List.take_of_length_le (show L.length ≤ 9 - d.args.length by omega), List.take_of_length_le hj]
  · rw [show 9 - d.args.length = j by omega]
end
theorem take_nx (L : List ByteArray) (j : Nat) (h : j < L.length) : (L.take j).map parA ++ [parA (nxW (L.drop j))] = (L.take (j + 1)).map parA := by
  rw [List.take_succ_eq_append_getElem h, List.map_append, List.drop_eq_getElem_cons h]
  rfl
theorem drop_nx (L : List ByteArray) (j : Nat) : (L.drop j).tail = L.drop (j + 1) := by rw [List.tail_drop]
end Go.Proofs.YtgmeojpekdekeaaGreatDoor

namespace Go.Proofs.YtgmeojpekdekeaaGreatDoor
open Go Go.RowKit Go.Shelf
set_option linter.unusedVariables false
set_option linter.unusedSimpArgs false
set_option maxRecDepth 100000
theorem WsAt.to {W W' : World} {p b0 : Nat} {L : List ByteArray} (h : WsAt W p b0 L) (c : Sm W W' p) (c0 : Sm W W' b0) : WsAt W' p b0 L := by
  obtain ⟨v, cs, h1, h2, h3, h4⟩ := h
  exact ⟨v, cs, h1.to c, h2.to (fun b e => by rw [h3] at e; injection e with e; subst e; exact c0), h3, h4.to c0⟩
theorem WsAt.au {W W' : World} {p b0 : Nat} {L : List ByteArray} (h : WsAt W p b0 L := by assumption) (c : Sm W W' p := by exact Sm.au) (c0 : Sm W W' b0 := by exact Sm.au) : WsAt W' p b0 L := h.to c c0
theorem WsAt.ow {W : World} {p b0 base e sz n : Nat} {L : List ByteArray} {v : Value} {xs : List Value} (h : WsAt W p b0 L) (ho : Ow W base e sz v n xs) (h1 : e ≠ 78) (h2 : e ≠ 9) : v.ownBlock ≠ some p ∧ v.ownBlock ≠ some b0 := by
  obtain ⟨u, cs, k1, k2, k3, k4⟩ := h
  constructor
  ·
   intro q
   obtain ⟨c, hc⟩ := ho.bk q
   exact Bk.ne hc k1 h1 rfl
  ·
   intro q
   obtain ⟨c, hc⟩ := ho.bk q
   exact Bk.ne hc k4 h2 rfl
theorem ow_bk {W : World} {b base e sz n t : Nat} {v : Value} {xs : List Value} {cs : Array Value} (h : Bk W b cs t) (ho : Ow W base e sz v n xs) (h1 : e ≠ t) : v.ownBlock ≠ some b := by
  intro q
  obtain ⟨c, hc⟩ := ho.bk q
  exact Bk.ne hc h h1 rfl
theorem va_info : (Tryz.prog.info? 43).map (fun i => (i.zero, i.size, i.bytes)) = some (some (.agg #[.int .i64 0, .int .i64 0, .string ByteArray.empty, .int .i64 0]), 4, 40) := rfl
abbrev DR (d : Dd) (va : Value) : Array Value := #[.string d.kind, .int .i64 d.side, .int .u64 (d.obj : Int), .string d.method, va, .int .i64 d.n, .int .i64 d.at', .int .i64 d.ref, .string d.cls, .string d.bytes]
abbrev nextV (p : Nat) : Value := .func (.func 70) #[] #[.pointer (some ⟨p, 0, none⟩)]
set_option maxHeartbeats 4000000 in
theorem deed_walk (base : Nat) (s : ByteArray) (w0 : World) (hs : s.size ≤ 1000000) (hV : Sv base w0) (hb : base ≤ w0.heap.size) : Does Tryz.prog 37 #[.string s] w0 (fun r w' => ∃ x : DD, r = x.v ∧ x.d = parD s ∧ x.d.args.length ≤ 9 ∧ Ow w' w0.heap.size 43 4 x.va x.d.args.length (cellsVa x.d.args) ∧ Nw w0 w') := by
  obtain ⟨k, ws, hkw⟩ := splW_ne s
  have hwp := wsP.spl hs hkw
  have hk1 : k.size ≤ 1000000 := Nat.le_trans (splW_size s k (by rw [hkw]; exact List.mem_cons_self)) hs
  have hwl := hwp.1
  have hlk : (k :: ws).length = ws.length + 1 := rfl
  obtain ⟨h, hh⟩ : ∃ h, h = hasF k := ⟨_, rfl⟩
  refine fn_of (n := 101) (args := [.string s]) Tryz.func37 rfl rfl rfl (W_seq (W_region ?_))
  refine L_new (.plain rfl) rfl rfl (r_alloca rfl) (fun w1 b2 hb2 eb1 hs1 c1 => (L_nil (W_seq (W_region (L_r (r_ms rfl) ?_)))))
  refine L_call (.plain rfl) rfl rfl (r_call Tryz.func69 rfl rfl rfl (by rfl)) (ssplit_use base s _ hs (hV.nw Ch.au hb)) ?_
  rintro v12 w2 ⟨hob2, hsl2, hbk2, hz2, c2⟩
  have hz2 := c2.size
  rw [hkw] at hsl2 hbk2
  obtain ⟨b0, hb0⟩ : ∃ b0, b0 = (w1).heap.size := ⟨_, rfl⟩
  rw [← hb0] at hob2 hbk2
  refine L_new (.plain rfl) rfl rfl (r_alloc1 rfl rfl) (fun w3 b3 hb3 eb3 hs3 c3 => ?_)
  refine L_set (.plain rfl) rfl Bk.au (r_store rfl rfl (by conv => lhs; whnf) (by first | rfl | exact ow_one (by assumption) | exact own_one (by assumption) | exact sl_one (by assumption)) Bk.au (by first | decide | (simp; done) | omega)) (fun w4 hb4 hs4 c4 => ?_)
  try simp only [List.setIfInBounds_toArray, List.set_cons_zero, List.set_cons_succ] at hb4
  refine L_nil (W_seq (W_region (L_r (r_lb rfl rfl) ?_)))
  refine L_r (r_ix Tryz.underlying78 (show _ = some 1 from rfl) (by conv => lhs; whnf) rfl Sl.au) ?_
  refine L_r (r_loadSl rfl rfl Sl.au (by exact rfl)) ?_
  refine L_r (r_build1 (pl := [(0, 1), (1, 1), (2, 1), (3, 1), (4, 1), (5, 1), (6, 1), (7, 1), (8, 1), (9, 1)]) (vs := [(0, .string _)]) (cells := [_, _, _, _, _, _, _, _, _, _]) Tryz.underlying29 rfl rfl (by rfl) rfl (by rfl)) ?_
  refine L_new (.plain rfl) rfl rfl (r_alloca rfl) (fun w5 b4 hb4 eb5 hs5 c5 => ?_)
  refine L_storerow (.plain rfl) rfl rfl Bk.au (by first | rfl | (simp; done) | assumption) (by first | rfl | assumption) (by first | rfl | exact row_one ⟨d, va⟩ hone | (simp [Value.oneCell']; done)) (fun w6 hb6 hs6 c6 => (L_nil (W_seq (W_region (L_r (r_lb rfl rfl) ?_)))))
  refine L_pure (.plain rfl) rfl rfl (cut_l (w := w6) Tryz.underlying78 (show _ = some 1 from rfl) (by conv => lhs; whnf) Sl.au rfl (by omega) (by omega)) ?_
  rintro v18 ⟨hv18, ho18⟩
  refine L_set (.plain rfl) rfl Bk.au (r_store rfl rfl (by conv => lhs; whnf) (by first | rfl | exact ow_one (by assumption) | exact own_one (by assumption) | exact sl_one (by assumption)) Bk.au (by first | decide | (simp; done) | omega)) (fun w7 hb7 hs7 c7 => ?_)
  try simp only [List.setIfInBounds_toArray, List.set_cons_zero, List.set_cons_succ] at hb7
  refine L_nil (W_seq (W_region ?_))
  refine L_r (r_funcL (l1 := []) (l2 := [.pointer _]) rfl rfl) ?_
  refine L_new (.plain rfl) rfl rfl (r_alloc1 rfl rfl) (fun w8 b5 hb5 eb8 hs8 c8 => ?_)
  refine L_set (.plain rfl) rfl Bk.au (r_store rfl rfl (by conv => lhs; whnf) (by first | rfl | exact ow_one (by assumption) | exact own_one (by assumption) | exact sl_one (by assumption)) Bk.au (by first | decide | (simp; done) | omega)) (fun w9 hb9 hs9 c9 => ?_)
  try simp only [List.setIfInBounds_toArray, List.set_cons_zero, List.set_cons_succ] at hb9
  refine L_nil (W_seq (W_region ?_))
  refine L_r (r_funcL (l1 := []) (l2 := [.pointer _]) rfl rfl) (L_r (r_av) (L_nil (W_seq (W_region ?_))))
  refine L_r (r_fieldb Tryz.underlying29 rfl (show _ = some 1 from rfl) rfl rfl (show _ = 0 from rfl)) (L_r (r_lb rfl rfl) ?_)
  refine L_call (.plain rfl) rfl rfl (r_call Tryz.func18 rfl rfl rfl (by rfl)) (sfind_walk base k _ (hV.nw Ch.au hb) (by omega)) ?_
  rintro v24 w10 ⟨rfl, c10⟩
  have hz10 := c10.size
  rw [← hh]
  refine L_r (r_mv) (L_r (r_ext2_0 rfl) (L_r (r_ext2_1 rfl) (L_r (r_as rfl) (L_r (r_ab rfl) (L_nil (W_seq (W_seq (W_region ?_))))))))
  refine L_r (r_ms rfl) ?_
  refine L_ranges Tryz.underlying9 (.plain rfl) rfl rfl (fun w11 b28 hit28 eb11 hs11 c11 => (L_nil (W_block ?_)))
  refine W_loopF [2, 3, 4, 5, 6, 28] (fun mz_ f W => ∃ (a : Nat) (va : Value), True ∧ (∃ L d, stA k ws a = (L, d) ∧ a ≤ h.size ∧ wsP L ∧ d.args.length ≤ 9 ∧ Its W b28 h a ∧ WsAt W b3 b0 L ∧ Bk W b4 (DR d va) 29 ∧ Ow W w0.heap.size 43 4 va d.args.length (cellsVa d.args) ∧ Bk W b5 #[nextV b3] 82 ∧ Bk W b2 (DR (Dd.zero mtB) (.slice none 0 0)) 29 ∧ Nw w0 W) ∧ mz_ = h.size - a) ?_ ?_
  ·
   refine ⟨_, 0, .slice none 0 0, trivial, ?_, rfl⟩
   have hv0 : v18.ownBlock = some b0 := ho18.trans (by assumption)
   exact ⟨ws, Dd.zero k, rfl, by omega, hwp, by show (0 : Nat) ≤ 9; omega, Its.au, ⟨v18, _, Bk.au, Sl.to hv18 (fun i hi => by rw [hv0] at hi; injection hi with hi; subst hi; (exact Sm.au)), hv0, Bk.au⟩, Bk.au, Ow.nil _ _ _ _, Bk.au, Bk.au, Ch.au⟩
  rintro m0 g0 w12 ⟨a, va, -, hR0, rfl⟩
  obtain ⟨L, d, hst, ha, hLp, hd9, hit, hws, hk4, hOw, hk5, hk2, hnw⟩ := hR0
  have hz := hnw.size
  have hLn := hLp.nx
  have hLl := hLp.1
  obtain ⟨hva3, hva0⟩ := hws.ow hOw (by decide) (by decide)
  have hva28 := ow_its hOw hit
  have hva4 := ow_bk hk4 hOw (by decide)
  have hva5 := ow_bk hk5 hOw (by decide)
  have hva2 := ow_bk hk2 hOw (by decide)
  have hone := ow_one hOw
  refine W_seq (W_region ?_)
  refine L_nexts (.plain rfl) rfl rfl Its.au (fun hall29 => ?_) (fun w13 hin29 hit29 hs13 c13 => ?_)
  ·
   refine L_r (r_ext1_0 rfl) (L_nil (W_seq ?_))
   refine W_false rfl ?_
   refine W_exit ?_
   repeat (first | refine blk_hit ?_ | refine blk_miss rfl ?_)
   refine W_seq (W_region ?_)
   refine L_r (r_loadrow Tryz.underlying29 rfl rfl Bk.au (by first | rfl | assumption)) ?_
   refine L_storerow (.plain rfl) rfl rfl Bk.au (by first | rfl | (simp; done) | assumption) (by first | rfl | assumption) (by first | rfl | exact row_one ⟨d, va⟩ hone | (simp [Value.oneCell']; done)) (fun w14 hb14 hs14 c14 => (L_nil (W_ret ?_)))
   refine r_ret_row rfl rfl Tryz.underlying29 rfl Bk.au (by first | rfl | assumption) ?_
   refine ⟨⟨d, va⟩, rfl, ?_, hd9, Ow.au, Ch.au⟩
   have hae : a = h.size := by omega
   rw [parD_st hkw, ← hh, ← hae, hst]
  ·
   refine L_r (r_ext3_0 rfl) (L_nil (W_seq ?_))
   refine W_true rfl (W_skip (W_block (W_seq (W_region (L_r (r_ext3_2 rfl) ?_)))))
   have hls : (bat h a).toNat ∈ onlyLs := by rw [hh]; exact hasF_ls k a (by rw [← hh]; exact hin29)
   have hda := dec_asc h a hin29 (onlyLs_lt hls)
   rw [hda]
   rw [hda] at hit29
   refine L_r (r_ai rfl) (L_nil (W_seq (W_region (L_r (r_mi rfl) (L_nil (W_block (W_seq (W_region ?_))))))))
   refine L_r (r_eql rfl rfl) (L_r (r_ab rfl) (L_nil ?_))
   refine W_if rfl (fun h33 => ?_) (fun h33 => ?_)
   ·
    refine W_region (L_r (r_mv) ?_)
    refine L_call (.plain rfl) rfl rfl (r_call Tryz.func71 rfl rfl rfl (by rfl)) (snum_walk base b3 b0 b5 L _ (by exact WsAt.au) (by omega) hLn Bk.au (hV.nw Ch.au hb) (by omega) (by omega)) ?_
    rintro v36 w15 ⟨rfl, hws15, c15⟩
    have hz15 := c15.size
    have hz15 := c15.size
    refine L_r (r_fieldb Tryz.underlying29 rfl (show _ = some 1 from rfl) rfl rfl (show _ = 1 from rfl)) ?_
    refine L_set (.plain rfl) rfl Bk.au (r_store (v := .int _ _) rfl rfl rfl rfl Bk.au (by first | decide | (simp; done) | omega)) (fun w16 hb16 hs16 c16 => ?_)
    try simp only [List.setIfInBounds_toArray, List.set_cons_zero, List.set_cons_succ] at hb16
    refine L_nil ?_
    refine ⟨⟨fx2, fx2, fx2, fx2, fx2, fx2, trivial⟩, _, ?_, a + 1, va, trivial, ?_, rfl⟩
    · omega
    first
    | exact ⟨L.tail, { d with side := atoiF (bs (nxW L)) }, (stA_succ k ws a (by rw [← hh]; omega)).trans (by rw [hst, ← hh]; exact stpS L d (by assumption)), by omega, hLp.tail, hd9, Its.au, by exact WsAt.au, Bk.au, Ow.au, Bk.au, Bk.au, Ch.au⟩
    | exact ⟨L.tail, { d with obj := uintF (bs (nxW L)) }, (stA_succ k ws a (by rw [← hh]; omega)).trans (by rw [hst, ← hh]; exact stpO L d (by assumption)), by omega, hLp.tail, hd9, Its.au, by exact WsAt.au, Bk.au, Ow.au, Bk.au, Bk.au, Ch.au⟩
    | exact ⟨L.tail, { d with method := nxW L }, (stA_succ k ws a (by rw [← hh]; omega)).trans (by rw [hst, ← hh]; exact stpM L d (by assumption)), by omega, hLp.tail, hd9, Its.au, by exact WsAt.au, Bk.au, Ow.au, Bk.au, Bk.au, Ch.au⟩
    | exact ⟨L.tail, { d with n := atoiF (bs (nxW L)) }, (stA_succ k ws a (by rw [← hh]; omega)).trans (by rw [hst, ← hh]; exact stpN L d (by assumption)), by omega, hLp.tail, hd9, Its.au, by exact WsAt.au, Bk.au, Ow.au, Bk.au, Bk.au, Ch.au⟩
    | exact ⟨L.tail, { d with at' := atoiF (bs (nxW L)) }, (stA_succ k ws a (by rw [← hh]; omega)).trans (by rw [hst, ← hh]; exact stpT L d (by assumption)), by omega, hLp.tail, hd9, Its.au, by exact WsAt.au, Bk.au, Ow.au, Bk.au, Bk.au, Ch.au⟩
    | exact ⟨L.tail, { d with ref := atoiF (bs (nxW L)) }, (stA_succ k ws a (by rw [← hh]; omega)).trans (by rw [hst, ← hh]; exact stpR L d (by assumption)), by omega, hLp.tail, hd9, Its.au, by exact WsAt.au, Bk.au, Ow.au, Bk.au, Bk.au, Ch.au⟩
    | exact ⟨L.tail, { d with cls := nxW L }, (stA_succ k ws a (by rw [← hh]; omega)).trans (by rw [hst, ← hh]; exact stpC L d (by assumption)), by omega, hLp.tail, hd9, Its.au, by exact WsAt.au, Bk.au, Ow.au, Bk.au, Bk.au, Ch.au⟩
    | exact ⟨L.tail, { d with bytes := unhF (nxW L) }, (stA_succ k ws a (by rw [← hh]; omega)).trans (by rw [hst, ← hh]; exact stpB L d (by assumption)), by omega, hLp.tail, hd9, Its.au, by exact WsAt.au, Bk.au, Ow.au, Bk.au, Bk.au, Ch.au⟩
    | (have h97 : ((bat h a).toNat : Int) = 97 := by assumption
       exact ⟨L.drop j, { d with args := d.args ++ (L.take j).map parA }, (stA_succ k ws a (by rw [← hh]; omega)).trans (by rw [hst, ← hh]; exact stpA_at L d h97 j hj hj9 (by first | exact .inl (List.length_eq_zero_iff.1 (by omega)) | exact .inr (by omega))), by omega, hLp.drop j, by show (d.args ++ _).length ≤ 9; rw [List.length_append, List.length_map, List.length_take]; omega, Its.au, by exact WsAt.au, Bk.au, Ow.au, Bk.au, Bk.au, Ch.au⟩)
   ·
    refine W_seq (W_region (L_r (r_eql rfl rfl) (L_r (r_ab rfl) (L_nil ?_))))
    refine W_if rfl (fun h38 => ?_) (fun h38 => ?_)
    ·
     refine W_region (L_r (r_lb rfl rfl) ?_)
     refine L_call (.plain rfl) rfl rfl (r_call Tryz.func70 rfl rfl rfl (by rfl)) (snext_walk b3 b0 L _ (by exact WsAt.au) (by omega)) ?_
     rintro v42 w17 ⟨rfl, hws17, hz17, c17⟩
     have hz17 := c17.size
     refine L_call (.plain rfl) rfl rfl (r_call Tryz.func73 rfl rfl rfl (by rfl)) (sparseu_use base (nxW L) _ hLn (hV.nw Ch.au hb)) ?_
     rintro v43 w18 ⟨e, rfl, c18⟩
     have hz18 := c18.size
     have hz18 := c18.size
     refine L_r (r_mv) (L_r (r_ext2_0 rfl) (L_r (r_ext2_1 rfl) ?_))
     refine L_r (r_fieldb Tryz.underlying29 rfl (show _ = some 1 from rfl) rfl rfl (show _ = 2 from rfl)) ?_
     refine L_set (.plain rfl) rfl Bk.au (r_store (v := .int _ _) rfl rfl rfl rfl Bk.au (by first | decide | (simp; done) | omega)) (fun w19 hb19 hs19 c19 => ?_)
     try simp only [List.setIfInBounds_toArray, List.set_cons_zero, List.set_cons_succ] at hb19
     refine L_nil ?_
     refine ⟨⟨fx2, fx2, fx2, fx2, fx2, fx2, trivial⟩, _, ?_, a + 1, va, trivial, ?_, rfl⟩
     · omega
     first
     | exact ⟨L.tail, { d with side := atoiF (bs (nxW L)) }, (stA_succ k ws a (by rw [← hh]; omega)).trans (by rw [hst, ← hh]; exact stpS L d (by assumption)), by omega, hLp.tail, hd9, Its.au, by exact WsAt.au, Bk.au, Ow.au, Bk.au, Bk.au, Ch.au⟩
     | exact ⟨L.tail, { d with obj := uintF (bs (nxW L)) }, (stA_succ k ws a (by rw [← hh]; omega)).trans (by rw [hst, ← hh]; exact stpO L d (by assumption)), by omega, hLp.tail, hd9, Its.au, by exact WsAt.au, Bk.au, Ow.au, Bk.au, Bk.au, Ch.au⟩
     | exact ⟨L.tail, { d with method := nxW L }, (stA_succ k ws a (by rw [← hh]; omega)).trans (by rw [hst, ← hh]; exact stpM L d (by assumption)), by omega, hLp.tail, hd9, Its.au, by exact WsAt.au, Bk.au, Ow.au, Bk.au, Bk.au, Ch.au⟩
     | exact ⟨L.tail, { d with n := atoiF (bs (nxW L)) }, (stA_succ k ws a (by rw [← hh]; omega)).trans (by rw [hst, ← hh]; exact stpN L d (by assumption)), by omega, hLp.tail, hd9, Its.au, by exact WsAt.au, Bk.au, Ow.au, Bk.au, Bk.au, Ch.au⟩
     | exact ⟨L.tail, { d with at' := atoiF (bs (nxW L)) }, (stA_succ k ws a (by rw [← hh]; omega)).trans (by rw [hst, ← hh]; exact stpT L d (by assumption)), by omega, hLp.tail, hd9, Its.au, by exact WsAt.au, Bk.au, Ow.au, Bk.au, Bk.au, Ch.au⟩
     | exact ⟨L.tail, { d with ref := atoiF (bs (nxW L)) }, (stA_succ k ws a (by rw [← hh]; omega)).trans (by rw [hst, ← hh]; exact stpR L d (by assumption)), by omega, hLp.tail, hd9, Its.au, by exact WsAt.au, Bk.au, Ow.au, Bk.au, Bk.au, Ch.au⟩
     | exact ⟨L.tail, { d with cls := nxW L }, (stA_succ k ws a (by rw [← hh]; omega)).trans (by rw [hst, ← hh]; exact stpC L d (by assumption)), by omega, hLp.tail, hd9, Its.au, by exact WsAt.au, Bk.au, Ow.au, Bk.au, Bk.au, Ch.au⟩
     | exact ⟨L.tail, { d with bytes := unhF (nxW L) }, (stA_succ k ws a (by rw [← hh]; omega)).trans (by rw [hst, ← hh]; exact stpB L d (by assumption)), by omega, hLp.tail, hd9, Its.au, by exact WsAt.au, Bk.au, Ow.au, Bk.au, Bk.au, Ch.au⟩
     | (have h97 : ((bat h a).toNat : Int) = 97 := by assumption
        exact ⟨L.drop j, { d with args := d.args ++ (L.take j).map parA }, (stA_succ k ws a (by rw [← hh]; omega)).trans (by rw [hst, ← hh]; exact stpA_at L d h97 j hj hj9 (by first | exact .inl (List.length_eq_zero_iff.1 (by omega)) | exact .inr (by omega))), by omega, hLp.drop j, by show (d.args ++ _).length ≤ 9; rw [List.length_append, List.length_map, List.length_take]; omega, Its.au, by exact WsAt.au, Bk.au, Ow.au, Bk.au, Bk.au, Ch.au⟩)
    ·
     refine W_seq (W_region (L_r (r_eql rfl rfl) (L_r (r_ab rfl) (L_nil ?_))))
     refine W_if rfl (fun h47 => ?_) (fun h47 => ?_)
     ·
      refine W_region (L_r (r_lb rfl rfl) ?_)
      refine L_call (.plain rfl) rfl rfl (r_call Tryz.func70 rfl rfl rfl (by rfl)) (snext_walk b3 b0 L _ (by exact WsAt.au) (by omega)) ?_
      rintro v50 w20 ⟨rfl, hws20, hz20, c20⟩
      have hz20 := c20.size
      refine L_r (r_fieldb Tryz.underlying29 rfl (show _ = some 1 from rfl) rfl rfl (show _ = 3 from rfl)) ?_
      refine L_set (.plain rfl) rfl Bk.au (r_store (v := .string _) rfl rfl rfl rfl Bk.au (by first | decide | (simp; done) | omega)) (fun w21 hb21 hs21 c21 => ?_)
      try simp only [List.setIfInBounds_toArray, List.set_cons_zero, List.set_cons_succ] at hb21
      refine L_nil ?_
      refine ⟨⟨fx2, fx2, fx2, fx2, fx2, fx2, trivial⟩, _, ?_, a + 1, va, trivial, ?_, rfl⟩
      · omega
      first
      | exact ⟨L.tail, { d with side := atoiF (bs (nxW L)) }, (stA_succ k ws a (by rw [← hh]; omega)).trans (by rw [hst, ← hh]; exact stpS L d (by assumption)), by omega, hLp.tail, hd9, Its.au, by exact WsAt.au, Bk.au, Ow.au, Bk.au, Bk.au, Ch.au⟩
      | exact ⟨L.tail, { d with obj := uintF (bs (nxW L)) }, (stA_succ k ws a (by rw [← hh]; omega)).trans (by rw [hst, ← hh]; exact stpO L d (by assumption)), by omega, hLp.tail, hd9, Its.au, by exact WsAt.au, Bk.au, Ow.au, Bk.au, Bk.au, Ch.au⟩
      | exact ⟨L.tail, { d with method := nxW L }, (stA_succ k ws a (by rw [← hh]; omega)).trans (by rw [hst, ← hh]; exact stpM L d (by assumption)), by omega, hLp.tail, hd9, Its.au, by exact WsAt.au, Bk.au, Ow.au, Bk.au, Bk.au, Ch.au⟩
      | exact ⟨L.tail, { d with n := atoiF (bs (nxW L)) }, (stA_succ k ws a (by rw [← hh]; omega)).trans (by rw [hst, ← hh]; exact stpN L d (by assumption)), by omega, hLp.tail, hd9, Its.au, by exact WsAt.au, Bk.au, Ow.au, Bk.au, Bk.au, Ch.au⟩
      | exact ⟨L.tail, { d with at' := atoiF (bs (nxW L)) }, (stA_succ k ws a (by rw [← hh]; omega)).trans (by rw [hst, ← hh]; exact stpT L d (by assumption)), by omega, hLp.tail, hd9, Its.au, by exact WsAt.au, Bk.au, Ow.au, Bk.au, Bk.au, Ch.au⟩
      | exact ⟨L.tail, { d with ref := atoiF (bs (nxW L)) }, (stA_succ k ws a (by rw [← hh]; omega)).trans (by rw [hst, ← hh]; exact stpR L d (by assumption)), by omega, hLp.tail, hd9, Its.au, by exact WsAt.au, Bk.au, Ow.au, Bk.au, Bk.au, Ch.au⟩
      | exact ⟨L.tail, { d with cls := nxW L }, (stA_succ k ws a (by rw [← hh]; omega)).trans (by rw [hst, ← hh]; exact stpC L d (by assumption)), by omega, hLp.tail, hd9, Its.au, by exact WsAt.au, Bk.au, Ow.au, Bk.au, Bk.au, Ch.au⟩
      | exact ⟨L.tail, { d with bytes := unhF (nxW L) }, (stA_succ k ws a (by rw [← hh]; omega)).trans (by rw [hst, ← hh]; exact stpB L d (by assumption)), by omega, hLp.tail, hd9, Its.au, by exact WsAt.au, Bk.au, Ow.au, Bk.au, Bk.au, Ch.au⟩
      | (have h97 : ((bat h a).toNat : Int) = 97 := by assumption
         exact ⟨L.drop j, { d with args := d.args ++ (L.take j).map parA }, (stA_succ k ws a (by rw [← hh]; omega)).trans (by rw [hst, ← hh]; exact stpA_at L d h97 j hj hj9 (by first | exact .inl (List.length_eq_zero_iff.1 (by omega)) | exact .inr (by omega))), by omega, hLp.drop j, by show (d.args ++ _).length ≤ 9; rw [List.length_append, List.length_map, List.length_take]; omega, Its.au, by exact WsAt.au, Bk.au, Ow.au, Bk.au, Bk.au, Ch.au⟩)
     ·
      refine W_seq (W_region (L_r (r_eql rfl rfl) (L_r (r_ab rfl) (L_nil ?_))))
      refine W_if rfl (fun h52 => ?_) (fun h52 => ?_)
      ·
       refine W_region (L_r (r_mv) ?_)
       refine L_call (.plain rfl) rfl rfl (r_call Tryz.func71 rfl rfl rfl (by rfl)) (snum_walk base b3 b0 b5 L _ (by exact WsAt.au) (by omega) hLn Bk.au (hV.nw Ch.au hb) (by omega) (by omega)) ?_
       rintro v55 w22 ⟨rfl, hws22, c22⟩
       have hz22 := c22.size
       have hz22 := c22.size
       refine L_r (r_fieldb Tryz.underlying29 rfl (show _ = some 1 from rfl) rfl rfl (show _ = 5 from rfl)) ?_
       refine L_set (.plain rfl) rfl Bk.au (r_store (v := .int _ _) rfl rfl rfl rfl Bk.au (by first | decide | (simp; done) | omega)) (fun w23 hb23 hs23 c23 => ?_)
       try simp only [List.setIfInBounds_toArray, List.set_cons_zero, List.set_cons_succ] at hb23
       refine L_nil ?_
       refine ⟨⟨fx2, fx2, fx2, fx2, fx2, fx2, trivial⟩, _, ?_, a + 1, va, trivial, ?_, rfl⟩
       · omega
       first
       | exact ⟨L.tail, { d with side := atoiF (bs (nxW L)) }, (stA_succ k ws a (by rw [← hh]; omega)).trans (by rw [hst, ← hh]; exact stpS L d (by assumption)), by omega, hLp.tail, hd9, Its.au, by exact WsAt.au, Bk.au, Ow.au, Bk.au, Bk.au, Ch.au⟩
       | exact ⟨L.tail, { d with obj := uintF (bs (nxW L)) }, (stA_succ k ws a (by rw [← hh]; omega)).trans (by rw [hst, ← hh]; exact stpO L d (by assumption)), by omega, hLp.tail, hd9, Its.au, by exact WsAt.au, Bk.au, Ow.au, Bk.au, Bk.au, Ch.au⟩
       | exact ⟨L.tail, { d with method := nxW L }, (stA_succ k ws a (by rw [← hh]; omega)).trans (by rw [hst, ← hh]; exact stpM L d (by assumption)), by omega, hLp.tail, hd9, Its.au, by exact WsAt.au, Bk.au, Ow.au, Bk.au, Bk.au, Ch.au⟩
       | exact ⟨L.tail, { d with n := atoiF (bs (nxW L)) }, (stA_succ k ws a (by rw [← hh]; omega)).trans (by rw [hst, ← hh]; exact stpN L d (by assumption)), by omega, hLp.tail, hd9, Its.au, by exact WsAt.au, Bk.au, Ow.au, Bk.au, Bk.au, Ch.au⟩
       | exact ⟨L.tail, { d with at' := atoiF (bs (nxW L)) }, (stA_succ k ws a (by rw [← hh]; omega)).trans (by rw [hst, ← hh]; exact stpT L d (by assumption)), by omega, hLp.tail, hd9, Its.au, by exact WsAt.au, Bk.au, Ow.au, Bk.au, Bk.au, Ch.au⟩
       | exact ⟨L.tail, { d with ref := atoiF (bs (nxW L)) }, (stA_succ k ws a (by rw [← hh]; omega)).trans (by rw [hst, ← hh]; exact stpR L d (by assumption)), by omega, hLp.tail, hd9, Its.au, by exact WsAt.au, Bk.au, Ow.au, Bk.au, Bk.au, Ch.au⟩
       | exact ⟨L.tail, { d with cls := nxW L }, (stA_succ k ws a (by rw [← hh]; omega)).trans (by rw [hst, ← hh]; exact stpC L d (by assumption)), by omega, hLp.tail, hd9, Its.au, by exact WsAt.au, Bk.au, Ow.au, Bk.au, Bk.au, Ch.au⟩
       | exact ⟨L.tail, { d with bytes := unhF (nxW L) }, (stA_succ k ws a (by rw [← hh]; omega)).trans (by rw [hst, ← hh]; exact stpB L d (by assumption)), by omega, hLp.tail, hd9, Its.au, by exact WsAt.au, Bk.au, Ow.au, Bk.au, Bk.au, Ch.au⟩
       | (have h97 : ((bat h a).toNat : Int) = 97 := by assumption
          exact ⟨L.drop j, { d with args := d.args ++ (L.take j).map parA }, (stA_succ k ws a (by rw [← hh]; omega)).trans (by rw [hst, ← hh]; exact stpA_at L d h97 j hj hj9 (by first | exact .inl (List.length_eq_zero_iff.1 (by omega)) | exact .inr (by omega))), by omega, hLp.drop j, by show (d.args ++ _).length ≤ 9; rw [List.length_append, List.length_map, List.length_take]; omega, Its.au, by exact WsAt.au, Bk.au, Ow.au, Bk.au, Bk.au, Ch.au⟩)
      ·
       refine W_seq (W_region (L_r (r_eql rfl rfl) (L_r (r_ab rfl) (L_nil ?_))))
       refine W_if rfl (fun h57 => ?_) (fun h57 => ?_)
       ·
        refine W_region (L_r (r_mv) ?_)
        refine L_call (.plain rfl) rfl rfl (r_call Tryz.func71 rfl rfl rfl (by rfl)) (snum_walk base b3 b0 b5 L _ (by exact WsAt.au) (by omega) hLn Bk.au (hV.nw Ch.au hb) (by omega) (by omega)) ?_
        rintro v60 w24 ⟨rfl, hws24, c24⟩
        have hz24 := c24.size
        have hz24 := c24.size
        refine L_r (r_fieldb Tryz.underlying29 rfl (show _ = some 1 from rfl) rfl rfl (show _ = 6 from rfl)) ?_
        refine L_set (.plain rfl) rfl Bk.au (r_store (v := .int _ _) rfl rfl rfl rfl Bk.au (by first | decide | (simp; done) | omega)) (fun w25 hb25 hs25 c25 => ?_)
        try simp only [List.setIfInBounds_toArray, List.set_cons_zero, List.set_cons_succ] at hb25
        refine L_nil ?_
        refine ⟨⟨fx2, fx2, fx2, fx2, fx2, fx2, trivial⟩, _, ?_, a + 1, va, trivial, ?_, rfl⟩
        · omega
        first
        | exact ⟨L.tail, { d with side := atoiF (bs (nxW L)) }, (stA_succ k ws a (by rw [← hh]; omega)).trans (by rw [hst, ← hh]; exact stpS L d (by assumption)), by omega, hLp.tail, hd9, Its.au, by exact WsAt.au, Bk.au, Ow.au, Bk.au, Bk.au, Ch.au⟩
        | exact ⟨L.tail, { d with obj := uintF (bs (nxW L)) }, (stA_succ k ws a (by rw [← hh]; omega)).trans (by rw [hst, ← hh]; exact stpO L d (by assumption)), by omega, hLp.tail, hd9, Its.au, by exact WsAt.au, Bk.au, Ow.au, Bk.au, Bk.au, Ch.au⟩
        | exact ⟨L.tail, { d with method := nxW L }, (stA_succ k ws a (by rw [← hh]; omega)).trans (by rw [hst, ← hh]; exact stpM L d (by assumption)), by omega, hLp.tail, hd9, Its.au, by exact WsAt.au, Bk.au, Ow.au, Bk.au, Bk.au, Ch.au⟩
        | exact ⟨L.tail, { d with n := atoiF (bs (nxW L)) }, (stA_succ k ws a (by rw [← hh]; omega)).trans (by rw [hst, ← hh]; exact stpN L d (by assumption)), by omega, hLp.tail, hd9, Its.au, by exact WsAt.au, Bk.au, Ow.au, Bk.au, Bk.au, Ch.au⟩
        | exact ⟨L.tail, { d with at' := atoiF (bs (nxW L)) }, (stA_succ k ws a (by rw [← hh]; omega)).trans (by rw [hst, ← hh]; exact stpT L d (by assumption)), by omega, hLp.tail, hd9, Its.au, by exact WsAt.au, Bk.au, Ow.au, Bk.au, Bk.au, Ch.au⟩
        | exact ⟨L.tail, { d with ref := atoiF (bs (nxW L)) }, (stA_succ k ws a (by rw [← hh]; omega)).trans (by rw [hst, ← hh]; exact stpR L d (by assumption)), by omega, hLp.tail, hd9, Its.au, by exact WsAt.au, Bk.au, Ow.au, Bk.au, Bk.au, Ch.au⟩
        | exact ⟨L.tail, { d with cls := nxW L }, (stA_succ k ws a (by rw [← hh]; omega)).trans (by rw [hst, ← hh]; exact stpC L d (by assumption)), by omega, hLp.tail, hd9, Its.au, by exact WsAt.au, Bk.au, Ow.au, Bk.au, Bk.au, Ch.au⟩
        | exact ⟨L.tail, { d with bytes := unhF (nxW L) }, (stA_succ k ws a (by rw [← hh]; omega)).trans (by rw [hst, ← hh]; exact stpB L d (by assumption)), by omega, hLp.tail, hd9, Its.au, by exact WsAt.au, Bk.au, Ow.au, Bk.au, Bk.au, Ch.au⟩
        | (have h97 : ((bat h a).toNat : Int) = 97 := by assumption
           exact ⟨L.drop j, { d with args := d.args ++ (L.take j).map parA }, (stA_succ k ws a (by rw [← hh]; omega)).trans (by rw [hst, ← hh]; exact stpA_at L d h97 j hj hj9 (by first | exact .inl (List.length_eq_zero_iff.1 (by omega)) | exact .inr (by omega))), by omega, hLp.drop j, by show (d.args ++ _).length ≤ 9; rw [List.length_append, List.length_map, List.length_take]; omega, Its.au, by exact WsAt.au, Bk.au, Ow.au, Bk.au, Bk.au, Ch.au⟩)
       ·
        refine W_seq (W_region (L_r (r_eql rfl rfl) (L_r (r_ab rfl) (L_nil ?_))))
        refine W_if rfl (fun h62 => ?_) (fun h62 => ?_)
        ·
         refine W_region (L_r (r_mv) ?_)
         refine L_call (.plain rfl) rfl rfl (r_call Tryz.func71 rfl rfl rfl (by rfl)) (snum_walk base b3 b0 b5 L _ (by exact WsAt.au) (by omega) hLn Bk.au (hV.nw Ch.au hb) (by omega) (by omega)) ?_
         rintro v65 w26 ⟨rfl, hws26, c26⟩
         have hz26 := c26.size
         have hz26 := c26.size
         refine L_r (r_fieldb Tryz.underlying29 rfl (show _ = some 1 from rfl) rfl rfl (show _ = 7 from rfl)) ?_
         refine L_set (.plain rfl) rfl Bk.au (r_store (v := .int _ _) rfl rfl rfl rfl Bk.au (by first | decide | (simp; done) | omega)) (fun w27 hb27 hs27 c27 => ?_)
         try simp only [List.setIfInBounds_toArray, List.set_cons_zero, List.set_cons_succ] at hb27
         refine L_nil ?_
         refine ⟨⟨fx2, fx2, fx2, fx2, fx2, fx2, trivial⟩, _, ?_, a + 1, va, trivial, ?_, rfl⟩
         · omega
         first
         | exact ⟨L.tail, { d with side := atoiF (bs (nxW L)) }, (stA_succ k ws a (by rw [← hh]; omega)).trans (by rw [hst, ← hh]; exact stpS L d (by assumption)), by omega, hLp.tail, hd9, Its.au, by exact WsAt.au, Bk.au, Ow.au, Bk.au, Bk.au, Ch.au⟩
         | exact ⟨L.tail, { d with obj := uintF (bs (nxW L)) }, (stA_succ k ws a (by rw [← hh]; omega)).trans (by rw [hst, ← hh]; exact stpO L d (by assumption)), by omega, hLp.tail, hd9, Its.au, by exact WsAt.au, Bk.au, Ow.au, Bk.au, Bk.au, Ch.au⟩
         | exact ⟨L.tail, { d with method := nxW L }, (stA_succ k ws a (by rw [← hh]; omega)).trans (by rw [hst, ← hh]; exact stpM L d (by assumption)), by omega, hLp.tail, hd9, Its.au, by exact WsAt.au, Bk.au, Ow.au, Bk.au, Bk.au, Ch.au⟩
         | exact ⟨L.tail, { d with n := atoiF (bs (nxW L)) }, (stA_succ k ws a (by rw [← hh]; omega)).trans (by rw [hst, ← hh]; exact stpN L d (by assumption)), by omega, hLp.tail, hd9, Its.au, by exact WsAt.au, Bk.au, Ow.au, Bk.au, Bk.au, Ch.au⟩
         | exact ⟨L.tail, { d with at' := atoiF (bs (nxW L)) }, (stA_succ k ws a (by rw [← hh]; omega)).trans (by rw [hst, ← hh]; exact stpT L d (by assumption)), by omega, hLp.tail, hd9, Its.au, by exact WsAt.au, Bk.au, Ow.au, Bk.au, Bk.au, Ch.au⟩
         | exact ⟨L.tail, { d with ref := atoiF (bs (nxW L)) }, (stA_succ k ws a (by rw [← hh]; omega)).trans (by rw [hst, ← hh]; exact stpR L d (by assumption)), by omega, hLp.tail, hd9, Its.au, by exact WsAt.au, Bk.au, Ow.au, Bk.au, Bk.au, Ch.au⟩
         | exact ⟨L.tail, { d with cls := nxW L }, (stA_succ k ws a (by rw [← hh]; omega)).trans (by rw [hst, ← hh]; exact stpC L d (by assumption)), by omega, hLp.tail, hd9, Its.au, by exact WsAt.au, Bk.au, Ow.au, Bk.au, Bk.au, Ch.au⟩
         | exact ⟨L.tail, { d with bytes := unhF (nxW L) }, (stA_succ k ws a (by rw [← hh]; omega)).trans (by rw [hst, ← hh]; exact stpB L d (by assumption)), by omega, hLp.tail, hd9, Its.au, by exact WsAt.au, Bk.au, Ow.au, Bk.au, Bk.au, Ch.au⟩
         | (have h97 : ((bat h a).toNat : Int) = 97 := by assumption
            exact ⟨L.drop j, { d with args := d.args ++ (L.take j).map parA }, (stA_succ k ws a (by rw [← hh]; omega)).trans (by rw [hst, ← hh]; exact stpA_at L d h97 j hj hj9 (by first | exact .inl (List.length_eq_zero_iff.1 (by omega)) | exact .inr (by omega))), by omega, hLp.drop j, by show (d.args ++ _).length ≤ 9; rw [List.length_append, List.length_map, List.length_take]; omega, Its.au, by exact WsAt.au, Bk.au, Ow.au, Bk.au, Bk.au, Ch.au⟩)
        ·
         refine W_seq (W_region (L_r (r_eql rfl rfl) (L_r (r_ab rfl) (L_nil ?_))))
         refine W_if rfl (fun h67 => ?_) (fun h67 => ?_)
         ·
          refine W_region (L_r (r_lb rfl rfl) ?_)
          refine L_call (.plain rfl) rfl rfl (r_call Tryz.func70 rfl rfl rfl (by rfl)) (snext_walk b3 b0 L _ (by exact WsAt.au) (by omega)) ?_
          rintro v70 w28 ⟨rfl, hws28, hz28, c28⟩
          have hz28 := c28.size
          refine L_r (r_fieldb Tryz.underlying29 rfl (show _ = some 1 from rfl) rfl rfl (show _ = 8 from rfl)) ?_
          refine L_set (.plain rfl) rfl Bk.au (r_store (v := .string _) rfl rfl rfl rfl Bk.au (by first | decide | (simp; done) | omega)) (fun w29 hb29 hs29 c29 => ?_)
          try simp only [List.setIfInBounds_toArray, List.set_cons_zero, List.set_cons_succ] at hb29
          refine L_nil ?_
          refine ⟨⟨fx2, fx2, fx2, fx2, fx2, fx2, trivial⟩, _, ?_, a + 1, va, trivial, ?_, rfl⟩
          · omega
          first
          | exact ⟨L.tail, { d with side := atoiF (bs (nxW L)) }, (stA_succ k ws a (by rw [← hh]; omega)).trans (by rw [hst, ← hh]; exact stpS L d (by assumption)), by omega, hLp.tail, hd9, Its.au, by exact WsAt.au, Bk.au, Ow.au, Bk.au, Bk.au, Ch.au⟩
          | exact ⟨L.tail, { d with obj := uintF (bs (nxW L)) }, (stA_succ k ws a (by rw [← hh]; omega)).trans (by rw [hst, ← hh]; exact stpO L d (by assumption)), by omega, hLp.tail, hd9, Its.au, by exact WsAt.au, Bk.au, Ow.au, Bk.au, Bk.au, Ch.au⟩
          | exact ⟨L.tail, { d with method := nxW L }, (stA_succ k ws a (by rw [← hh]; omega)).trans (by rw [hst, ← hh]; exact stpM L d (by assumption)), by omega, hLp.tail, hd9, Its.au, by exact WsAt.au, Bk.au, Ow.au, Bk.au, Bk.au, Ch.au⟩
          | exact ⟨L.tail, { d with n := atoiF (bs (nxW L)) }, (stA_succ k ws a (by rw [← hh]; omega)).trans (by rw [hst, ← hh]; exact stpN L d (by assumption)), by omega, hLp.tail, hd9, Its.au, by exact WsAt.au, Bk.au, Ow.au, Bk.au, Bk.au, Ch.au⟩
          | exact ⟨L.tail, { d with at' := atoiF (bs (nxW L)) }, (stA_succ k ws a (by rw [← hh]; omega)).trans (by rw [hst, ← hh]; exact stpT L d (by assumption)), by omega, hLp.tail, hd9, Its.au, by exact WsAt.au, Bk.au, Ow.au, Bk.au, Bk.au, Ch.au⟩
          | exact ⟨L.tail, { d with ref := atoiF (bs (nxW L)) }, (stA_succ k ws a (by rw [← hh]; omega)).trans (by rw [hst, ← hh]; exact stpR L d (by assumption)), by omega, hLp.tail, hd9, Its.au, by exact WsAt.au, Bk.au, Ow.au, Bk.au, Bk.au, Ch.au⟩
          | exact ⟨L.tail, { d with cls := nxW L }, (stA_succ k ws a (by rw [← hh]; omega)).trans (by rw [hst, ← hh]; exact stpC L d (by assumption)), by omega, hLp.tail, hd9, Its.au, by exact WsAt.au, Bk.au, Ow.au, Bk.au, Bk.au, Ch.au⟩
          | exact ⟨L.tail, { d with bytes := unhF (nxW L) }, (stA_succ k ws a (by rw [← hh]; omega)).trans (by rw [hst, ← hh]; exact stpB L d (by assumption)), by omega, hLp.tail, hd9, Its.au, by exact WsAt.au, Bk.au, Ow.au, Bk.au, Bk.au, Ch.au⟩
          | (have h97 : ((bat h a).toNat : Int) = 97 := by assumption
             exact ⟨L.drop j, { d with args := d.args ++ (L.take j).map parA }, (stA_succ k ws a (by rw [← hh]; omega)).trans (by rw [hst, ← hh]; exact stpA_at L d h97 j hj hj9 (by first | exact .inl (List.length_eq_zero_iff.1 (by omega)) | exact .inr (by omega))), by omega, hLp.drop j, by show (d.args ++ _).length ≤ 9; rw [List.length_append, List.length_map, List.length_take]; omega, Its.au, by exact WsAt.au, Bk.au, Ow.au, Bk.au, Bk.au, Ch.au⟩)
         ·
          refine W_seq (W_region (L_r (r_eql rfl rfl) (L_r (r_ab rfl) (L_nil ?_))))
          refine W_if rfl (fun h72 => ?_) (fun h72 => ?_)
          ·
           refine W_region (L_r (r_lb rfl rfl) ?_)
           refine L_call (.plain rfl) rfl rfl (r_call Tryz.func70 rfl rfl rfl (by rfl)) (snext_walk b3 b0 L _ (by exact WsAt.au) (by omega)) ?_
           rintro v76 w30 ⟨rfl, hws30, hz30, c30⟩
           have hz30 := c30.size
           refine L_call (.plain rfl) rfl rfl (r_call Tryz.func74 rfl rfl rfl (by rfl)) (sunhex_walk base (nxW L) _ hLn (hV.nw Ch.au hb) (by omega)) ?_
           rintro v77 w31 ⟨bx, rfl, c31⟩
           have hz31 := c31.size
           refine L_r (r_mv) (L_r (r_ext2_0 rfl) (L_r (r_ext2_1 rfl) ?_))
           refine L_r (r_fieldb Tryz.underlying29 rfl (show _ = some 1 from rfl) rfl rfl (show _ = 9 from rfl)) ?_
           refine L_set (.plain rfl) rfl Bk.au (r_store (v := .string _) rfl rfl rfl rfl Bk.au (by first | decide | (simp; done) | omega)) (fun w32 hb32 hs32 c32 => ?_)
           try simp only [List.setIfInBounds_toArray, List.set_cons_zero, List.set_cons_succ] at hb32
           refine L_nil ?_
           refine ⟨⟨fx2, fx2, fx2, fx2, fx2, fx2, trivial⟩, _, ?_, a + 1, va, trivial, ?_, rfl⟩
           · omega
           first
           | exact ⟨L.tail, { d with side := atoiF (bs (nxW L)) }, (stA_succ k ws a (by rw [← hh]; omega)).trans (by rw [hst, ← hh]; exact stpS L d (by assumption)), by omega, hLp.tail, hd9, Its.au, by exact WsAt.au, Bk.au, Ow.au, Bk.au, Bk.au, Ch.au⟩
           | exact ⟨L.tail, { d with obj := uintF (bs (nxW L)) }, (stA_succ k ws a (by rw [← hh]; omega)).trans (by rw [hst, ← hh]; exact stpO L d (by assumption)), by omega, hLp.tail, hd9, Its.au, by exact WsAt.au, Bk.au, Ow.au, Bk.au, Bk.au, Ch.au⟩
           | exact ⟨L.tail, { d with method := nxW L }, (stA_succ k ws a (by rw [← hh]; omega)).trans (by rw [hst, ← hh]; exact stpM L d (by assumption)), by omega, hLp.tail, hd9, Its.au, by exact WsAt.au, Bk.au, Ow.au, Bk.au, Bk.au, Ch.au⟩
           | exact ⟨L.tail, { d with n := atoiF (bs (nxW L)) }, (stA_succ k ws a (by rw [← hh]; omega)).trans (by rw [hst, ← hh]; exact stpN L d (by assumption)), by omega, hLp.tail, hd9, Its.au, by exact WsAt.au, Bk.au, Ow.au, Bk.au, Bk.au, Ch.au⟩
           | exact ⟨L.tail, { d with at' := atoiF (bs (nxW L)) }, (stA_succ k ws a (by rw [← hh]; omega)).trans (by rw [hst, ← hh]; exact stpT L d (by assumption)), by omega, hLp.tail, hd9, Its.au, by exact WsAt.au, Bk.au, Ow.au, Bk.au, Bk.au, Ch.au⟩
           | exact ⟨L.tail, { d with ref := atoiF (bs (nxW L)) }, (stA_succ k ws a (by rw [← hh]; omega)).trans (by rw [hst, ← hh]; exact stpR L d (by assumption)), by omega, hLp.tail, hd9, Its.au, by exact WsAt.au, Bk.au, Ow.au, Bk.au, Bk.au, Ch.au⟩
           | exact ⟨L.tail, { d with cls := nxW L }, (stA_succ k ws a (by rw [← hh]; omega)).trans (by rw [hst, ← hh]; exact stpC L d (by assumption)), by omega, hLp.tail, hd9, Its.au, by exact WsAt.au, Bk.au, Ow.au, Bk.au, Bk.au, Ch.au⟩
           | exact ⟨L.tail, { d with bytes := unhF (nxW L) }, (stA_succ k ws a (by rw [← hh]; omega)).trans (by rw [hst, ← hh]; exact stpB L d (by assumption)), by omega, hLp.tail, hd9, Its.au, by exact WsAt.au, Bk.au, Ow.au, Bk.au, Bk.au, Ch.au⟩
           | (have h97 : ((bat h a).toNat : Int) = 97 := by assumption
              exact ⟨L.drop j, { d with args := d.args ++ (L.take j).map parA }, (stA_succ k ws a (by rw [← hh]; omega)).trans (by rw [hst, ← hh]; exact stpA_at L d h97 j hj hj9 (by first | exact .inl (List.length_eq_zero_iff.1 (by omega)) | exact .inr (by omega))), by omega, hLp.drop j, by show (d.args ++ _).length ≤ 9; rw [List.length_append, List.length_map, List.length_take]; omega, Its.au, by exact WsAt.au, Bk.au, Ow.au, Bk.au, Bk.au, Ch.au⟩)
          ·
           refine W_seq (W_region (L_r (r_eql rfl rfl) (L_r (r_ab rfl) (L_nil ?_))))
           refine W_if rfl (fun h81 => ?_) (fun h81 => ?_)
           ·
            refine W_block ?_
            refine W_loopF [2, 3, 4, 5, 6, 28] (fun mz_ f W => ∃ (j : Nat) (va : Value), True ∧ (j ≤ L.length ∧ d.args.length + j ≤ 9 ∧ Its W b28 h (a + 1) ∧ WsAt W b3 b0 (L.drop j) ∧ Bk W b4 (DR { d with args := d.args ++ (L.take j).map parA } va) 29 ∧ Ow W w0.heap.size 43 4 va (d.args ++ (L.take j).map parA).length (cellsVa (d.args ++ (L.take j).map parA)) ∧ Bk W b5 #[nextV b3] 82 ∧ Bk W b2 (DR (Dd.zero mtB) (.slice none 0 0)) 29 ∧ Nw w0 W) ∧ mz_ = L.length - j) ?_ ?_
            ·
             refine ⟨_, 0, va, trivial, ?_, rfl⟩
             exact ⟨by omega, by omega, Its.au, by rw [List.drop_zero]; exact WsAt.au, Bk.au, by rw [List.take_zero, List.map_nil, List.append_nil]; (exact Ow.au), Bk.au, Bk.au, Ch.au⟩
            rintro m1 g1 w33 ⟨j, va, -, hR1, rfl⟩
            clear hOw hk5 hk2 hit hk4 hws hva3 hva0 hva28 hva4 hva5 hva2 hone hz hnw
            obtain ⟨hj, hj9, hit, hws, hk4, hOw, hk5, hk2, hnw⟩ := hR1
            have hz := hnw.size
            obtain ⟨hva3, hva0⟩ := hws.ow hOw (by decide) (by decide)
            have hva28 := ow_its hOw hit
            have hva4 := ow_bk hk4 hOw (by decide)
            have hva5 := ow_bk hk5 hOw (by decide)
            have hva2 := ow_bk hk2 hOw (by decide)
            have hone := ow_one hOw
            have hal : (d.args ++ (L.take j).map parA).length = d.args.length + j := by rw [List.length_append, List.length_map, List.length_take]; omega
            have hl4 := hk4.lt
            have hdl := (List.length_drop : (L.drop j).length = L.length - j)
            obtain ⟨v3, cs3, hk3, hsl3, hv3, hk0⟩ := id hws
            refine W_seq (W_seq (W_region (L_r (r_lb rfl rfl) ?_)))
            refine L_r (r_lenSl Tryz.underlying78 (by conv => lhs; whnf) Sl.au) (L_r (r_gtr rfl rfl) (L_r (r_mb rfl) ?_))
            refine L_case (d := 86) rfl (fun h86 => ?_) (fun h86 => ?_)
            ·
             refine L_g (r_fieldb Tryz.underlying29 rfl (show _ = some 1 from rfl) rfl rfl (show _ = 4 from rfl)) ?_
             refine L_g (r_lb rfl rfl) ?_
             refine L_g (r_lenSl Tryz.underlying27 (by conv => lhs; whnf) Sl.au) ?_
             refine L_g (r_leq rfl rfl) (L_r (r_pt rfl rfl) (L_nil ?_))
             refine W_if rfl (fun h91 => ?_) (fun h91 => ?_)
             ·
              refine W_skip (W_block ?_)
              refine W_draw (fun W => Bk W b4 (DR { d with args := d.args ++ (L.take j).map parA } va) 29 ∧ Bk W b5 #[nextV b3] 82) 8 (m := 9) (by kernel_rfl) rfl (fun w34 c34 hs34 => ?_)
              refine held (by exact ⟨Bk.au, Bk.au⟩) (fun hS => ?_)
              refine D_t 0 rfl (fun W hW => r_fieldb Tryz.underlying29 rfl (show _ = some 1 from rfl) rfl rfl (show _ = 4 from rfl)) ?_
              refine D_t 1 rfl (fun W hW => r_loadb rfl rfl (by first | exact hW.1 | exact hW.2) (by first | assumption | (conv => lhs; simp only [List.getElem?_toArray, List.getElem?_cons_succ, List.getElem?_cons_zero]))) ?_
              refine D_t 2 rfl (fun W hW => r_loadb rfl rfl (by first | exact hW.1 | exact hW.2) (by first | assumption | (conv => lhs; simp only [List.getElem?_toArray, List.getElem?_cons_succ, List.getElem?_cons_zero]))) ?_
              refine D_ev 3 (by kernel_rfl) rfl ?_
              refine L_call (.plain rfl) rfl rfl (r_call Tryz.func70 rfl rfl rfl (by rfl)) (snext_walk b3 b0 (L.drop j) _ (by exact WsAt.au) (by omega)) ?_
              rintro v95 w35 ⟨rfl, hws35, hz35, c35⟩
              have hz35 := c35.size
              refine L_nil ?_
              refine heldK (by exact ⟨Bk.au, Bk.au⟩) (fun hS => ?_)
              refine D_ev 4 (by kernel_rfl) rfl ?_
              refine L_call (.plain rfl) rfl rfl (r_call Tryz.func75 rfl rfl rfl (by rfl)) (sargu_walk base (nxW (L.drop j)) _ (hLp.drop j).nx (hV.nw Ch.au hb) (by omega)) ?_
              rintro v96 w36 ⟨rfl, c36⟩
              have hz36 := c36.size
              refine L_nil ?_
              refine heldK (by exact ⟨Bk.au, Bk.au⟩) (fun hS => ?_)
              refine D_ev 5 (by kernel_rfl) rfl ?_
              refine L_buildrow [[_, _, _, _]] Tryz.underlying27 (show _ = some (some _, 4, _) from rfl) rfl rfl (.plain rfl) rfl (by rfl) (by rfl) rfl (fun b97 w37 hb97 hv97 eb37 hs37 c37 => ?_)
              simp only [List.flatten_cons, List.flatten_nil, List.append_nil, List.cons_append, List.nil_append] at hb97 hv97
              refine L_nil ?_
              refine heldK (by exact ⟨Bk.au, Bk.au⟩) (fun hS => ?_)
              refine D_ev 6 (by kernel_rfl) rfl ?_
              refine L_apow Tryz.underlying27 va_info rfl (by decide) (.plain rfl) rfl (by conv => lhs; whnf) (by conv => lhs; whnf) Ow.au Sl.au (by intro y hy; simp at hy; rcases hy with rfl | rfl | rfl | rfl <;> rfl) (by unfold maxLen; omega) (by omega) (by omega) (fun v98 w38 ho98 c38 hob98 => ?_)
              have hz38 := c38.size
              have hone98 := ow_one ho98
              have hn98 : v98.ownBlock ≠ some b4 := fun e => by { rcases hob98 _ e with h | h; exact hva4 h; omega }
              refine L_nil ?_
              refine heldK (by exact ⟨Bk.au, Bk.au⟩) (fun hS => ?_)
              refine D_t 7 rfl (fun W hW => r_fieldb Tryz.underlying29 rfl (show _ = some 1 from rfl) rfl rfl (show _ = 4 from rfl)) ?_
              refine D_ev 8 (by kernel_rfl) rfl ?_
              refine L_set (.plain rfl) rfl Bk.au (r_store rfl rfl (by conv => lhs; whnf) (by first | rfl | exact ow_one (by assumption) | exact own_one (by assumption) | exact sl_one (by assumption)) Bk.au (by first | decide | (simp; done) | omega)) (fun w39 hb39 hs39 c39 => ?_)
              try simp only [List.setIfInBounds_toArray, List.set_cons_zero, List.set_cons_succ] at hb39
              refine L_nil ?_
              refine heldL ?_
              refine D_done (by kernel_rfl) ?_
              refine ⟨⟨fx2, fx2, fx2, fx2, fx2, fx2, trivial⟩, _, ?_, j + 1, v98, trivial, ?_, rfl⟩
              · omega
              refine ⟨by omega, by omega, Its.au, by rw [← drop_nx]; exact WsAt.au, Bk.au, ?_, Bk.au, Bk.au, Ch.au⟩
              rw [← take_nx L j (by omega), ← List.append_assoc, List.length_append, cellsVa_append]
              (exact Ow.au)
             ·
              refine W_exit ?_
              repeat (first | refine blk_hit ?_ | refine blk_miss rfl ?_)
              refine ⟨⟨fx2, fx2, fx2, fx2, fx2, fx2, trivial⟩, _, ?_, a + 1, va, trivial, ?_, rfl⟩
              · omega
              first
              | exact ⟨L.tail, { d with side := atoiF (bs (nxW L)) }, (stA_succ k ws a (by rw [← hh]; omega)).trans (by rw [hst, ← hh]; exact stpS L d (by assumption)), by omega, hLp.tail, hd9, Its.au, by exact WsAt.au, Bk.au, Ow.au, Bk.au, Bk.au, Ch.au⟩
              | exact ⟨L.tail, { d with obj := uintF (bs (nxW L)) }, (stA_succ k ws a (by rw [← hh]; omega)).trans (by rw [hst, ← hh]; exact stpO L d (by assumption)), by omega, hLp.tail, hd9, Its.au, by exact WsAt.au, Bk.au, Ow.au, Bk.au, Bk.au, Ch.au⟩
              | exact ⟨L.tail, { d with method := nxW L }, (stA_succ k ws a (by rw [← hh]; omega)).trans (by rw [hst, ← hh]; exact stpM L d (by assumption)), by omega, hLp.tail, hd9, Its.au, by exact WsAt.au, Bk.au, Ow.au, Bk.au, Bk.au, Ch.au⟩
              | exact ⟨L.tail, { d with n := atoiF (bs (nxW L)) }, (stA_succ k ws a (by rw [← hh]; omega)).trans (by rw [hst, ← hh]; exact stpN L d (by assumption)), by omega, hLp.tail, hd9, Its.au, by exact WsAt.au, Bk.au, Ow.au, Bk.au, Bk.au, Ch.au⟩
              | exact ⟨L.tail, { d with at' := atoiF (bs (nxW L)) }, (stA_succ k ws a (by rw [← hh]; omega)).trans (by rw [hst, ← hh]; exact stpT L d (by assumption)), by omega, hLp.tail, hd9, Its.au, by exact WsAt.au, Bk.au, Ow.au, Bk.au, Bk.au, Ch.au⟩
              | exact ⟨L.tail, { d with ref := atoiF (bs (nxW L)) }, (stA_succ k ws a (by rw [← hh]; omega)).trans (by rw [hst, ← hh]; exact stpR L d (by assumption)), by omega, hLp.tail, hd9, Its.au, by exact WsAt.au, Bk.au, Ow.au, Bk.au, Bk.au, Ch.au⟩
              | exact ⟨L.tail, { d with cls := nxW L }, (stA_succ k ws a (by rw [← hh]; omega)).trans (by rw [hst, ← hh]; exact stpC L d (by assumption)), by omega, hLp.tail, hd9, Its.au, by exact WsAt.au, Bk.au, Ow.au, Bk.au, Bk.au, Ch.au⟩
              | exact ⟨L.tail, { d with bytes := unhF (nxW L) }, (stA_succ k ws a (by rw [← hh]; omega)).trans (by rw [hst, ← hh]; exact stpB L d (by assumption)), by omega, hLp.tail, hd9, Its.au, by exact WsAt.au, Bk.au, Ow.au, Bk.au, Bk.au, Ch.au⟩
              | (have h97 : ((bat h a).toNat : Int) = 97 := by assumption
                 exact ⟨L.drop j, { d with args := d.args ++ (L.take j).map parA }, (stA_succ k ws a (by rw [← hh]; omega)).trans (by rw [hst, ← hh]; exact stpA_at L d h97 j hj hj9 (by first | exact .inl (List.length_eq_zero_iff.1 (by omega)) | exact .inr (by omega))), by omega, hLp.drop j, by show (d.args ++ _).length ≤ 9; rw [List.length_append, List.length_map, List.length_take]; omega, Its.au, by exact WsAt.au, Bk.au, Ow.au, Bk.au, Bk.au, Ch.au⟩)
            ·
             refine L_ps (L_ps (L_ps (L_ps (L_r (r_pf rfl rfl) (L_nil ?_)))))
             refine W_false rfl ?_
             refine W_exit ?_
             repeat (first | refine blk_hit ?_ | refine blk_miss rfl ?_)
             refine ⟨⟨fx2, fx2, fx2, fx2, fx2, fx2, trivial⟩, _, ?_, a + 1, va, trivial, ?_, rfl⟩
             · omega
             first
             | exact ⟨L.tail, { d with side := atoiF (bs (nxW L)) }, (stA_succ k ws a (by rw [← hh]; omega)).trans (by rw [hst, ← hh]; exact stpS L d (by assumption)), by omega, hLp.tail, hd9, Its.au, by exact WsAt.au, Bk.au, Ow.au, Bk.au, Bk.au, Ch.au⟩
             | exact ⟨L.tail, { d with obj := uintF (bs (nxW L)) }, (stA_succ k ws a (by rw [← hh]; omega)).trans (by rw [hst, ← hh]; exact stpO L d (by assumption)), by omega, hLp.tail, hd9, Its.au, by exact WsAt.au, Bk.au, Ow.au, Bk.au, Bk.au, Ch.au⟩
             | exact ⟨L.tail, { d with method := nxW L }, (stA_succ k ws a (by rw [← hh]; omega)).trans (by rw [hst, ← hh]; exact stpM L d (by assumption)), by omega, hLp.tail, hd9, Its.au, by exact WsAt.au, Bk.au, Ow.au, Bk.au, Bk.au, Ch.au⟩
             | exact ⟨L.tail, { d with n := atoiF (bs (nxW L)) }, (stA_succ k ws a (by rw [← hh]; omega)).trans (by rw [hst, ← hh]; exact stpN L d (by assumption)), by omega, hLp.tail, hd9, Its.au, by exact WsAt.au, Bk.au, Ow.au, Bk.au, Bk.au, Ch.au⟩
             | exact ⟨L.tail, { d with at' := atoiF (bs (nxW L)) }, (stA_succ k ws a (by rw [← hh]; omega)).trans (by rw [hst, ← hh]; exact stpT L d (by assumption)), by omega, hLp.tail, hd9, Its.au, by exact WsAt.au, Bk.au, Ow.au, Bk.au, Bk.au, Ch.au⟩
             | exact ⟨L.tail, { d with ref := atoiF (bs (nxW L)) }, (stA_succ k ws a (by rw [← hh]; omega)).trans (by rw [hst, ← hh]; exact stpR L d (by assumption)), by omega, hLp.tail, hd9, Its.au, by exact WsAt.au, Bk.au, Ow.au, Bk.au, Bk.au, Ch.au⟩
             | exact ⟨L.tail, { d with cls := nxW L }, (stA_succ k ws a (by rw [← hh]; omega)).trans (by rw [hst, ← hh]; exact stpC L d (by assumption)), by omega, hLp.tail, hd9, Its.au, by exact WsAt.au, Bk.au, Ow.au, Bk.au, Bk.au, Ch.au⟩
             | exact ⟨L.tail, { d with bytes := unhF (nxW L) }, (stA_succ k ws a (by rw [← hh]; omega)).trans (by rw [hst, ← hh]; exact stpB L d (by assumption)), by omega, hLp.tail, hd9, Its.au, by exact WsAt.au, Bk.au, Ow.au, Bk.au, Bk.au, Ch.au⟩
             | (have h97 : ((bat h a).toNat : Int) = 97 := by assumption
                exact ⟨L.drop j, { d with args := d.args ++ (L.take j).map parA }, (stA_succ k ws a (by rw [← hh]; omega)).trans (by rw [hst, ← hh]; exact stpA_at L d h97 j hj hj9 (by first | exact .inl (List.length_eq_zero_iff.1 (by omega)) | exact .inr (by omega))), by omega, hLp.drop j, by show (d.args ++ _).length ≤ 9; rw [List.length_append, List.length_map, List.length_take]; omega, Its.au, by exact WsAt.au, Bk.au, Ow.au, Bk.au, Bk.au, Ch.au⟩)
           ·
            exfalso
            have k1 : ¬ ((bat h a).toNat : Int) = 115 := h33
            have k2 : ¬ ((bat h a).toNat : Int) = 111 := h38
            have k3 : ¬ ((bat h a).toNat : Int) = 109 := h47
            have k4 : ¬ ((bat h a).toNat : Int) = 110 := h52
            have k5 : ¬ ((bat h a).toNat : Int) = 116 := h57
            have k6 : ¬ ((bat h a).toNat : Int) = 114 := h62
            have k7 : ¬ ((bat h a).toNat : Int) = 99 := h67
            have k8 : ¬ ((bat h a).toNat : Int) = 98 := h72
            have k9 : ¬ ((bat h a).toNat : Int) = 97 := h81
            unfold onlyLs at hls
            simp only [List.mem_cons, List.not_mem_nil, or_false] at hls
            omega
end Go.Proofs.YtgmeojpekdekeaaGreatDoor
