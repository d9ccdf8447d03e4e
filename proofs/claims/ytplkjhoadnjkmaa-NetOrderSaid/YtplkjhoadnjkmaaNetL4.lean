/- NetOrder, walked. -/
import Derived.Test.YtplkjhoadnjkmaaNetL3
namespace Go.Proofs.Ytplkjhoadnjkmaa
open Go Go.RowKit
set_option linter.unusedVariables false
set_option linter.unusedSimpArgs false
def upT {α : Type} (T : Nat → α) (q : Nat) (x : α) : Nat → α := fun r => if r = q then x else T r
theorem upT_same {α : Type} (T : Nat → α) (q : Nat) (x : α) : upT T q x q = x := if_pos rfl
theorem upT_ne {α : Type} (T : Nat → α) (q r : Nat) (x : α) (h : r ≠ q) : upT T q x r = T r := if_neg h
/-- What goes to one, in order. -/
def pick (L : List (Int × List UInt8)) (q : Nat) : List (List UInt8) := (L.filter (fun p => p.1 == (q : Int))).map (·.2)
theorem pick_append (L K : List (Int × List UInt8)) (q : Nat) : pick (L ++ K) q = pick L q ++ pick K q := by simp [pick]
theorem pick_cons (p : Int × List UInt8) (L : List (Int × List UInt8)) (q : Nat) : pick (p :: L) q = if p.1 = q then p.2 :: pick L q else pick L q := by
  unfold pick
  by_cases h : p.1 = (q : Int) <;> simp [List.filter_cons, h]
structure Inv (L : List (Int × List UInt8)) (T : Nat → List ByteArray) : Prop where
  to : ∀ p ∈ L, p.1 = 0 ∨ p.1 = 1
  is : ∀ q : Nat, q < 2 → pick L q = (T q).map bs
theorem Inv.ext {L : List (Int × List UInt8)} {T T' : Nat → List ByteArray} (h : Inv L T) (e : ∀ q, q < 2 → T q = T' q) : Inv L T' := ⟨h.to, fun q hq => by rw [← e q hq]; exact h.is q hq⟩
theorem Inv.put {L : List (Int × List UInt8)} {T : Nat → List ByteArray} (h : Inv L T) {q : Nat} (hq : q < 2) (s : ByteArray) : Inv (L ++ [((q : Int), bs s)]) (upT T q (T q ++ [s])) := by
  refine ⟨fun p hp => ?_, fun r hr => ?_⟩
  · rcases List.mem_append.1 hp with hp | hp
    · exact h.to p hp
    · rw [List.mem_singleton] at hp; subst hp; simp only; omega
  · rw [pick_append, h.is r hr, pick_cons]
    by_cases e : r = q
    · subst e; rw [upT_same, if_pos rfl, List.map_append]; rfl
    · rw [upT_ne _ _ _ _ e, if_neg (by simp only; omega)]; simp [pick]
theorem pick_none (L : List (Int × List UInt8)) (q : Nat) (h : ∀ (j : Nat) (m : Int), (L.map (·.1))[j]? = some m → m ≠ q) : pick L q = [] := by
  unfold pick
  rw [List.map_eq_nil_iff, List.filter_eq_nil_iff]
  intro p hp
  obtain ⟨j, hj, rfl⟩ := List.mem_iff_getElem.1 hp
  have := h j L[j].1 (by simp [hj])
  simpa using this
theorem Inv.take {L : List (Int × List UInt8)} {T : Nat → List ByteArray} (h : Inv L T) {q : Nat} (hq : q < 2) {s : ByteArray} {rest : List ByteArray} (hT : T q = s :: rest) {x : Int} (hx : isFirst (L.map (·.1)) q x) :
    ∃ (k : Nat) (hk : k < L.length), x = k ∧ L[k].1 = q ∧ L[k].2 = bs s ∧ Inv (L.eraseIdx k) (upT T q rest) := by
  have h1 := h.is q hq
  rw [hT] at h1
  rcases hx with ⟨rfl, hno⟩ | ⟨k, rfl, hk, hno⟩
  · rw [pick_none L q hno] at h1; cases h1
  · have hkl : k < L.length := by have := (List.getElem?_eq_some_iff.1 hk).1; simpa using this
    have hk1 : L[k].1 = (q : Int) := by
      rw [List.getElem?_map, List.getElem?_eq_getElem hkl] at hk
      exact Option.some.inj hk
    have hL : L = L.take k ++ L[k] :: L.drop (k + 1) := by rw [← List.drop_eq_getElem_cons hkl, List.take_append_drop]
    have hA : pick (L.take k) q = [] := pick_none _ q fun j m hj => by
      have hj2 := (List.getElem?_eq_some_iff.1 hj).1
      simp at hj2
      refine hno j m (by omega) ?_
      rw [List.getElem?_map] at hj ⊢
      rw [List.getElem?_take_of_lt (by omega)] at hj
      exact hj
    have h2 := h1
    rw [hL, pick_append, hA, pick_cons, if_pos hk1, List.nil_append, List.map_cons] at h2
    injection h2 with h3 h4
    refine ⟨k, hkl, rfl, hk1, h3, fun p hp => h.to p (List.mem_of_mem_eraseIdx hp), fun r hr => ?_⟩
    rw [List.eraseIdx_eq_take_drop_succ, pick_append]
    by_cases e : r = q
    · subst e; rw [upT_same, hA, List.nil_append]; exact h4
    · rw [upT_ne _ _ _ _ e, ← h.is r hr]
      conv => rhs; rw [hL]
      rw [pick_append, pick_cons, if_neg (by rw [hk1]; omega)]
theorem Inv.len {L : List (Int × List UInt8)} {T : Nat → List ByteArray} (h : Inv L T) (q : Nat) (hq : q < 2) : (T q).length ≤ L.length := by
  have h1 := congrArg List.length (h.is q hq)
  rw [List.length_map] at h1
  rw [← h1]
  unfold pick
  rw [List.length_map]
  exact List.length_filter_le _ _
theorem Inv.nil {L : List (Int × List UInt8)} {T : Nat → List ByteArray} (h : Inv L T) (h0 : T 0 = []) (h1 : T 1 = []) : L = [] := by
  cases L with
  | nil => rfl
  | cons p L =>
    exfalso
    rcases h.to p List.mem_cons_self with hp | hp
    · have := h.is 0 (by omega); rw [pick_cons, if_pos (show p.1 = ((0 : Nat) : Int) from hp), h0] at this; cases this
    · have := h.is 1 (by omega); rw [pick_cons, if_pos (show p.1 = ((1 : Nat) : Int) from hp), h1] at this; cases this
/-- Two rows of texts, apart. -/
def Rows2 (base : Nat) (w : World) (V : Nat → Value) (T : Nat → List ByteArray) : Prop :=
  (∀ q, q < 2 → Ow w base 9 1 (V q) (T q).length (strs (T q))) ∧ ∀ j, (V 0).ownBlock = some j → (V 1).ownBlock ≠ some j
theorem Rows2.tb {base b0 : Nat} {w w' : World} {V : Nat → Value} {T : Nat → List ByteArray} {ts : List TypeId} (h : Rows2 base w V T) (c : Ch (Tb b0 w ts) w w') (ht : ts.contains 9 = false) : Rows2 base w' V T :=
  ⟨fun q hq => (h.1 q hq).tb c ht, h.2⟩
theorem Rows2.nw {base : Nat} {w w' : World} {V : Nat → Value} {T : Nat → List ByteArray} (h : Rows2 base w V T) (c : Nw w w') : Rows2 base w' V T := ⟨fun q hq => (h.1 q hq).nw c, h.2⟩
theorem strs_append (a b : List ByteArray) : strs (a ++ b) = strs a ++ strs b := by simp [strs]
theorem Rows2.app {base : Nat} {w w' : World} {V : Nat → Value} {T : Nat → List ByteArray} (h : Rows2 base w V T) {q : Nat} (hq : q < 2) {v' : Value} {s : ByteArray} (ho : Ow w' base 9 1 v' ((T q).length + 1) (strs (T q) ++ [.string s]))
    (c : Ch (fun j => (V q).ownBlock = some j) w w') (hob : ∀ j, v'.ownBlock = some j → (V q).ownBlock = some j ∨ j = w.heap.size) : Rows2 base w' (upT V q v') (upT T q (T q ++ [s])) := by
  have hsep : ∀ r, r < 2 → r ≠ q → ∀ j, (V r).ownBlock = some j → (V q).ownBlock ≠ some j := by
    intro r hr hne j hj he
    have : (r = 0 ∧ q = 1) ∨ (r = 1 ∧ q = 0) := by omega
    rcases this with ⟨rfl, rfl⟩ | ⟨rfl, rfl⟩
    · exact h.2 j hj he
    · exact h.2 j he hj
  refine ⟨fun r hr => ?_, ?_⟩
  · by_cases e : r = q
    · subst e
      rw [upT_same, upT_same, List.length_append, strs_append]
      exact ho
    · rw [upT_ne _ _ _ _ e, upT_ne _ _ _ _ e]
      exact (h.1 r hr).to fun i hi => Sm.step c (fun _ => hsep r hr e i hi) (Sm.refl _ _)
  · intro j h0 h1
    have hq2 : q = 0 ∨ q = 1 := by omega
    rcases hq2 with rfl | rfl
    · rw [upT_same] at h0
      rw [upT_ne _ _ _ _ (by omega)] at h1
      rcases hob j h0 with h2 | h2
      · exact h.2 j h2 h1
      · have := (h.1 1 (by omega)).lt h1; omega
    · rw [upT_ne _ _ _ _ (by omega)] at h0
      rw [upT_same] at h1
      rcases hob j h1 with h2 | h2
      · exact h.2 j h0 h2
      · have := (h.1 0 (by omega)).lt h0; omega
theorem two_get {α : Type} (V : Nat → α) (q : Nat) (hq : q < 2) : [V 0, V 1][q]? = some (V q) := by
  have : q = 0 ∨ q = 1 := by omega
  rcases this with rfl | rfl <;> rfl
theorem two_set {α : Type} (V : Nat → α) (q : Nat) (hq : q < 2) (x : α) : [V 0, V 1].set q x = [upT V q x 0, upT V q x 1] := by
  have : q = 0 ∨ q = 1 := by omega
  rcases this with rfl | rfl <;> rfl
theorem NetAt.tb {base b0 : Nat} {w w' : World} {b : Nat} {most : Int} {L : List (Int × List UInt8)} {ts : List TypeId} (h : NetAt base w b most L) (c : Ch (Tb b0 w ts) w w') (h1 : ts.contains 57 = false) (h2 : ts.contains 60 = false) (h3 : ts.contains 5 = false) : NetAt base w' b most L := by
  obtain ⟨v, M, k1, k2, k3, k4⟩ := h
  exact ⟨v, M, k1.ch c (Tb.not_bk k1 h1), k2, k3.tb c h2, k4.tb c h3⟩
theorem ow_apart {w : World} {b1 b2 e e' s1 s2 n1 n2 : Nat} {v v' : Value} {xs ys : List Value} (h : Ow w b1 e s1 v n1 xs) (h' : Ow w b2 e' s2 v' n2 ys) (hne : e ≠ e') : ∀ j, v.ownBlock = some j → v'.ownBlock ≠ some j := by
  intro j h1 h2
  obtain ⟨_, k1⟩ := h.bk h1
  obtain ⟨_, k2⟩ := h'.bk h2
  exact Bk.ne k1 k2 hne rfl
def bools (z : List Bool) : List Value := z.flatMap fun s => [.bool s]
theorem bools_get : ∀ (z : List Bool) (i : Nat) (h : i < z.length), (bools z)[i]? = some (.bool z[i])
  | x :: z, 0, _ => rfl
  | x :: z, i + 1, h => bools_get z i (by simpa using h)
theorem rd_23 {H : Type} {enc : TypeId × Value → H} {W : World} {b0 j : Nat} {v : Value} {d : DataW H} {p : List MemPlace} {R : Prop} (_ : R) (_ : 0 = 0) (_ : 0 = 0)
    (hok : Value.okWide Try.prog W .any b0 23 v) (h : DataW.Trod enc Try.prog W 0 (fun _ => true) true 23 v d p) : ∃ z : List Bool, Sl W v 1 z.length (bools z) := by
  obtain ⟨z, hz, _⟩ := sl_arg (fun s : Bool => [Value.bool s]) 1 (fun _ => True) (fun _ => rfl) Try.underlying23 rfl (fun n cs y hy => by
    obtain ⟨s, rfl, _⟩ := DataW.trod_bool Try.underlying4 hy
    exact ⟨s, rfl, trivial⟩) hok h
  exact ⟨z, hz⟩
theorem str_info : (Try.prog.info? 9).map (fun i => (i.zero, i.size, i.bytes)) = some (some (.string ByteArray.empty), 1, 16) := rfl
theorem NetOrder_walk (v0 : Value) (z : List ByteArray) (v1 : Value) (tb : List Bool) (w0 : World) (y0 : Sl w0 v0 1 z.length (strs z)) (y1 : Sl w0 v1 1 tb.length (bools tb)) : Does Try.prog 3 #[v0, v1] w0 (fun r w' => r = .bool true ∧ Nw w0 w') := by
  refine fn_of (n := 144) (args := [v0, v1]) Try.func3 rfl rfl rfl ?_
  refine W_seq ?_
  refine W_region ?_
  refine L_run (.plain rfl) rfl rfl (r_assign (v := .bool _) rfl) ?_
  refine L_nil ?_
  refine W_seq ?_
  refine W_region ?_
  refine L_call (.plain rfl) rfl rfl (r_call Try.func9 rfl rfl rfl (by rfl)) (new_walk 100 _ (by omega)) ?_
  rintro v16 w1 ⟨b, rfl, hN, c1⟩
  have hz1 := c1.size
  refine L_run (.plain rfl) rfl rfl (r_move (by conv => lhs; whnf)) ?_
  refine L_run (.plain rfl) rfl rfl (r_ext2_0 rfl) ?_
  refine L_run (.plain rfl) rfl rfl (r_ext2_1 rfl) ?_
  refine L_run (.plain rfl) rfl rfl (r_assign (v := .pointer _) rfl) ?_
  refine L_run (.plain rfl) rfl rfl (r_assign (v := .int _ _) rfl) ?_
  refine L_nil ?_
  refine W_seq ?_
  refine W_seq ?_
  refine W_region ?_
  refine L_call (.plain rfl) rfl rfl (r_call Try.func10 rfl rfl rfl (by rfl)) (awake_walk _) ?_
  rintro v19 w2 ⟨rfl, c2⟩
  have hz2 := c2.size
  refine L_run (.plain rfl) rfl rfl (r_not rfl) ?_
  refine L_run (.plain rfl) rfl rfl (r_move (v := .bool _) rfl) ?_
  refine L_as (v := .bool _) (v' := .bool false) 21 rfl (congrArg Value.bool (by rfl)) ?_
  refine L_run (.yes 2 false rfl rfl) rfl rfl (r_move (v := .int _ _) rfl) ?_
  refine L_run (.yes 2 false rfl rfl) rfl rfl (r_neq rfl rfl) ?_
  refine L_run (.plain rfl) rfl rfl (r_pick_f (v := .bool _) rfl rfl) ?_
  refine L_run (.plain rfl) rfl rfl (r_move (v := .bool _) rfl) ?_
  refine L_as (v := .bool _) (v' := .bool false) 25 rfl (dec_f (by simp)).symm ?_
  refine L_run (.yes 6 false rfl rfl) rfl rfl (r_move (v := .pointer _) rfl) ?_
  refine L_run (.yes 6 false rfl rfl) rfl rfl (r_eqpnil Try.underlying24 rfl rfl) ?_
  refine L_run (.plain rfl) rfl rfl (r_pick_f (v := .bool _) rfl rfl) ?_
  refine L_run (.plain rfl) rfl rfl (r_move (v := .bool _) rfl) ?_
  refine L_as (v := .bool _) (v' := .bool false) 29 rfl (congrArg Value.bool (by rfl)) ?_
  refine L_run (.yes 10 false rfl rfl) rfl rfl (r_move (by conv => lhs; whnf)) ?_
  refine L_run (.yes 10 false rfl rfl) rfl rfl (r_lenSl Try.underlying22 (by conv => lhs; whnf) (by (exact Sl.to (by first | assumption | exact Sl.own (by assumption) | exact Mu.sl (by assumption) | exact Ow.sl (by assumption)) (fun i hi => by (repeat (first | exact Sm.refl _ _ | (refine Sm.stepT (by assumption) (by intro hlt hsm; first | exact not_no | (intro he; have he2 : _ = some _ := he; have := own_base (by assumption) he2; omega) | (intro he; have he2 : _ = _ := he; omega) | (intro he; have he2 : _ = some _ := he; have := ow_base (by assumption) he2; omega) | (intro he; have := he.1; omega) | exact bk_not (by assumption) hsm rfl | (refine own_not ?_ hi hsm rfl <;> assumption) | (refine ow_not ?_ hi hsm rfl <;> assumption) | (intro he; have he2 : _ = some _ := he; have := Ow.lt (by assumption) he2; omega) | (intro he; have he2 : _ = some _ := he; have := Ow.lt (by assumption) he2; have := own_base (by assumption) hi; omega) | (intro he; have he2 : _ = some _ := he; have := Ow.lt how he2; first | omega | (have := own_base (by assumption) hi; omega)) | (intro he; have he2 : _ = _ := he; have := own_base (by assumption) hi; omega) | (intro he; have he2 : _ = _ := he; rw [he2] at hi; exact absurd hi (by assumption)) | (intro he; have he2 : _ = some _ := he; exact absurd he2 (hsep _ hi)) | (intro he; first | exact absurd he (by assumption) | exact absurd he.symm (by assumption))) ?_))))))) ?_
  refine L_run (.yes 10 false rfl rfl) rfl rfl (r_gtr rfl rfl) ?_
  refine L_run (.plain rfl) rfl rfl (r_pick_f (v := .bool _) rfl rfl) ?_
  refine L_nil ?_
  refine W_if rfl (fun h33 => ?_) (fun h33 => ?_)
  · refine W_seq ?_
    refine W_region ?_
    refine L_call (.plain rfl) rfl rfl (r_call Try.func10 rfl rfl rfl (by rfl)) (awake_walk _) ?_
    rintro v34 w3 ⟨rfl, c3⟩
    have hz3 := c3.size
    refine L_run (.plain rfl) rfl rfl (r_assign (v := .bool _) rfl) ?_
    refine L_nil ?_
    refine W_ret ?_
    refine ret1 (v := .bool _) rfl rfl ?_
    first
      | exact ⟨rfl, by (repeat (first | exact Ch.refl _ | assumption | (refine Ch.fresh ?_ (by assumption) (by intro i hi he; first | exact he | (exfalso; have he2 : _ = some i := he; have := own_base (by assumption) he2; omega) | (exfalso; have he2 : i = _ := he; omega) | (exfalso; have he2 : _ = some i := he; have := ow_base (by assumption) he2; omega) | (exfalso; have := he.1; omega)))))⟩
      | exact ⟨(dec_t (by assumption)).symm, by (repeat (first | exact Ch.refl _ | assumption | (refine Ch.fresh ?_ (by assumption) (by intro i hi he; first | exact he | (exfalso; have he2 : _ = some i := he; have := own_base (by assumption) he2; omega) | (exfalso; have he2 : i = _ := he; omega) | (exfalso; have he2 : _ = some i := he; have := ow_base (by assumption) he2; omega) | (exfalso; have := he.1; omega)))))⟩
  · refine W_skip ?_
    refine W_seq ?_
    refine W_region ?_
    refine L_build0 (sz := 1) Try.underlying22 rfl (.plain rfl) rfl (fun v35 w4 ho35 eb4 nl35 hs4 c4 => ?_)
    obtain ⟨A35, c35, rfl, _⟩ := (Sl.own ho35).len
    refine L_build0 (sz := 1) Try.underlying22 rfl (.plain rfl) rfl (fun v36 w5 ho36 eb5 nl36 hs5 c5 => ?_)
    obtain ⟨A36, c36, rfl, _⟩ := (Sl.own ho36).len
    refine L_build1o [_, _] Try.underlying29 rfl rfl rfl (.plain rfl) rfl (by rfl) (by rfl) (by rfl) (fun v37 w6 ho37 eb6 hs6 c6 => ?_)
    have q35 := ((Ow.of ho35).nw (by (repeat (first | exact Ch.refl _ | assumption | (refine Ch.fresh ?_ (by assumption) (by intro i hi he; first | exact he | (exfalso; have he2 : _ = some i := he; have := own_base (by assumption) he2; omega) | (exfalso; have he2 : i = _ := he; omega) | (exfalso; have he2 : _ = some i := he; have := ow_base (by assumption) he2; omega) | (exfalso; have := he.1; omega))))) : Nw _ w6)).mono (b := w0.heap.size) (by omega)
    have q36 := ((Ow.of ho36).nw (by (repeat (first | exact Ch.refl _ | assumption | (refine Ch.fresh ?_ (by assumption) (by intro i hi he; first | exact he | (exfalso; have he2 : _ = some i := he; have := own_base (by assumption) he2; omega) | (exfalso; have he2 : i = _ := he; omega) | (exfalso; have he2 : _ = some i := he; have := ow_base (by assumption) he2; omega) | (exfalso; have := he.1; omega))))) : Nw _ w6)).mono (b := w0.heap.size) (by omega)
    have g37 : World.ownsRow w6 _ _ _ v37 _ [.slice A35 0 c35, .slice A36 0 c36] := ho37
    clear ho37
    have q37 := (Ow.of g37).mono (b := w0.heap.size) (by omega)
    refine L_run (.plain rfl) rfl rfl (r_assign (by conv => lhs; whnf)) ?_
    refine L_nil ?_
    refine W_seq ?_
    refine W_seq ?_
    refine W_region ?_
    refine L_run (.plain rfl) rfl rfl (r_assign (v := .int _ _) rfl) ?_
    refine L_nil ?_
    refine W_block ?_
    refine W_loopF [0, 1, 5, 7] (fun m f W => ∃ (i : Nat) (L : List (Int × List UInt8)) (V : Nat → Value) (T : Nat → List ByteArray), f 8 = .int .i64 i ∧ (i ≤ z.length ∧ L.length = i ∧ NetAt w0.heap.size W b 100 L ∧ Inv L T ∧ Rows2 w0.heap.size W V T ∧ Ow W w0.heap.size 22 1 v37 2 [V 0, V 1] ∧ Nw w0 W) ∧ m = z.length - i) ?_ ?_
    · refine ⟨_, 0, [], (fun q => if q = 0 then .slice A35 0 c35 else .slice A36 0 c36), (fun _ => []), rfl, ?_, rfl⟩
      refine ⟨by omega, rfl, NetAt.nw hN (by (repeat (first | exact Ch.refl _ | assumption | (refine Ch.fresh ?_ (by assumption) (by intro i hi he; first | exact he | (exfalso; have he2 : _ = some i := he; have := own_base (by assumption) he2; omega) | (exfalso; have he2 : i = _ := he; omega) | (exfalso; have he2 : _ = some i := he; have := ow_base (by assumption) he2; omega) | (exfalso; have := he.1; omega)))))), ⟨by simp, fun q _ => rfl⟩, ⟨fun q hq => ?_, fun j h0 h1 => ?_⟩, q37, by (repeat (first | exact Ch.refl _ | assumption | (refine Ch.fresh ?_ (by assumption) (by intro i hi he; first | exact he | (exfalso; have he2 : _ = some i := he; have := own_base (by assumption) he2; omega) | (exfalso; have he2 : i = _ := he; omega) | (exfalso; have he2 : _ = some i := he; have := ow_base (by assumption) he2; omega) | (exfalso; have := he.1; omega)))))⟩
      · have : q = 0 ∨ q = 1 := by omega
        rcases this with rfl | rfl
        · exact q35
        · exact q36
      · have e0 : (Value.slice A35 0 c35).ownBlock = some j := h0
        have e1 : (Value.slice A36 0 c36).ownBlock = some j := h1
        have := own_base ho36 e1
        have := own_lt ho35 e0
        omega
    rintro m0 g0 w7 ⟨i, L, V, T, hf8, hR0, rfl⟩
    refine W_as 8 hf8 rfl ?_
    clear hf8
    obtain ⟨hi, hLl, hNi, hI, hR, hA, hnw⟩ := hR0
    clear g37 q37 q35 q36 ho35 ho36
    have hz := hnw.size
    refine W_seq ?_
    refine W_seq ?_
    refine W_region ?_
    refine L_run (.plain rfl) rfl rfl (r_move (v := .int _ _) rfl) ?_
    refine L_run (.plain rfl) rfl rfl (r_move (by conv => lhs; whnf)) ?_
    refine L_run (.plain rfl) rfl rfl (r_lenSl Try.underlying22 (by conv => lhs; whnf) (by (exact Sl.to (by first | assumption | exact Sl.own (by assumption) | exact Mu.sl (by assumption) | exact Ow.sl (by assumption)) (fun i hi => by (repeat (first | exact Sm.refl _ _ | (refine Sm.stepT (by assumption) (by intro hlt hsm; first | exact not_no | (intro he; have he2 : _ = some _ := he; have := own_base (by assumption) he2; omega) | (intro he; have he2 : _ = _ := he; omega) | (intro he; have he2 : _ = some _ := he; have := ow_base (by assumption) he2; omega) | (intro he; have := he.1; omega) | exact bk_not (by assumption) hsm rfl | (refine own_not ?_ hi hsm rfl <;> assumption) | (refine ow_not ?_ hi hsm rfl <;> assumption) | (intro he; have he2 : _ = some _ := he; have := Ow.lt (by assumption) he2; omega) | (intro he; have he2 : _ = some _ := he; have := Ow.lt (by assumption) he2; have := own_base (by assumption) hi; omega) | (intro he; have he2 : _ = some _ := he; have := Ow.lt how he2; first | omega | (have := own_base (by assumption) hi; omega)) | (intro he; have he2 : _ = _ := he; have := own_base (by assumption) hi; omega) | (intro he; have he2 : _ = _ := he; rw [he2] at hi; exact absurd hi (by assumption)) | (intro he; have he2 : _ = some _ := he; exact absurd he2 (hsep _ hi)) | (intro he; first | exact absurd he (by assumption) | exact absurd he.symm (by assumption))) ?_))))))) ?_
    refine L_run (.plain rfl) rfl rfl (r_lss rfl rfl) ?_
    refine L_nil ?_
    refine W_if rfl (fun h41 => ?_) (fun h41 => ?_)
    · have hlt : i < z.length := by omega
      refine W_skip ?_
      refine W_seq ?_
      refine W_block ?_
      refine W_seq ?_
      refine W_region ?_
      refine L_run (.plain rfl) rfl rfl (r_assign (v := .int _ _) rfl) ?_
      refine L_nil ?_
      refine W_seq ?_
      refine W_cutF [0, 1, 5, 7, 8, 9] (fun f W => ∃ (tv : Bool), f 53 = .bool tv ∧ (W = w7)) ?_ ?_
      · refine W_region ?_
        refine L_run (.plain rfl) rfl rfl (r_move (v := .int _ _) rfl) ?_
        refine L_run (.plain rfl) rfl rfl (r_move (by conv => lhs; whnf)) ?_
        refine L_run (.plain rfl) rfl rfl (r_lenSl Try.underlying23 (by conv => lhs; whnf) (by (exact Sl.to (by first | assumption | exact Sl.own (by assumption) | exact Mu.sl (by assumption) | exact Ow.sl (by assumption)) (fun i hi => by (repeat (first | exact Sm.refl _ _ | (refine Sm.stepT (by assumption) (by intro hlt hsm; first | exact not_no | (intro he; have he2 : _ = some _ := he; have := own_base (by assumption) he2; omega) | (intro he; have he2 : _ = _ := he; omega) | (intro he; have he2 : _ = some _ := he; have := ow_base (by assumption) he2; omega) | (intro he; have := he.1; omega) | exact bk_not (by assumption) hsm rfl | (refine own_not ?_ hi hsm rfl <;> assumption) | (refine ow_not ?_ hi hsm rfl <;> assumption) | (intro he; have he2 : _ = some _ := he; have := Ow.lt (by assumption) he2; omega) | (intro he; have he2 : _ = some _ := he; have := Ow.lt (by assumption) he2; have := own_base (by assumption) hi; omega) | (intro he; have he2 : _ = some _ := he; have := Ow.lt how he2; first | omega | (have := own_base (by assumption) hi; omega)) | (intro he; have he2 : _ = _ := he; have := own_base (by assumption) hi; omega) | (intro he; have he2 : _ = _ := he; rw [he2] at hi; exact absurd hi (by assumption)) | (intro he; have he2 : _ = some _ := he; exact absurd he2 (hsep _ hi)) | (intro he; first | exact absurd he (by assumption) | exact absurd he.symm (by assumption))) ?_))))))) ?_
        refine L_run (.plain rfl) rfl rfl (r_lss rfl rfl) ?_
        refine L_run (.plain rfl) rfl rfl (r_move (v := .bool _) rfl) ?_
        refine L_case (d := 48) rfl (fun h48 => ?_) (fun h48 => ?_)
        · have hlt2 : i < tb.length := by omega
          refine L_run (.yes 4 true rfl rfl) rfl rfl (r_move (by conv => lhs; whnf)) ?_
          refine L_run (.yes 4 true rfl rfl) rfl rfl (r_move (v := .int _ _) rfl) ?_
          refine L_run (.yes 4 true rfl rfl) rfl rfl (r_idxSl Try.underlying23 (show _ = some 1 from rfl) (by conv => lhs; whnf) rfl (by (exact Sl.to (by first | assumption | exact Sl.own (by assumption) | exact Mu.sl (by assumption) | exact Ow.sl (by assumption)) (fun i hi => by (repeat (first | exact Sm.refl _ _ | (refine Sm.stepT (by assumption) (by intro hlt hsm; first | exact not_no | (intro he; have he2 : _ = some _ := he; have := own_base (by assumption) he2; omega) | (intro he; have he2 : _ = _ := he; omega) | (intro he; have he2 : _ = some _ := he; have := ow_base (by assumption) he2; omega) | (intro he; have := he.1; omega) | exact bk_not (by assumption) hsm rfl | (refine own_not ?_ hi hsm rfl <;> assumption) | (refine ow_not ?_ hi hsm rfl <;> assumption) | (intro he; have he2 : _ = some _ := he; have := Ow.lt (by assumption) he2; omega) | (intro he; have he2 : _ = some _ := he; have := Ow.lt (by assumption) he2; have := own_base (by assumption) hi; omega) | (intro he; have he2 : _ = some _ := he; have := Ow.lt how he2; first | omega | (have := own_base (by assumption) hi; omega)) | (intro he; have he2 : _ = _ := he; have := own_base (by assumption) hi; omega) | (intro he; have he2 : _ = _ := he; rw [he2] at hi; exact absurd hi (by assumption)) | (intro he; have he2 : _ = some _ := he; exact absurd he2 (hsep _ hi)) | (intro he; first | exact absurd he (by assumption) | exact absurd he.symm (by assumption))) ?_)))))) (by omega) (by omega) (by conv => lhs; (try simp only [Nat.mul_one, Nat.zero_add, Int.toNat_natCast, Int.toNat_zero, Int.reduceToNat, Nat.reduceMul, Nat.reduceAdd]))) ?_
          refine L_run (.yes 4 true rfl rfl) rfl rfl (r_loadSl rfl rfl (by (exact Sl.to (by first | assumption | exact Sl.own (by assumption) | exact Mu.sl (by assumption) | exact Ow.sl (by assumption)) (fun i hi => by (repeat (first | exact Sm.refl _ _ | (refine Sm.stepT (by assumption) (by intro hlt hsm; first | exact not_no | (intro he; have he2 : _ = some _ := he; have := own_base (by assumption) he2; omega) | (intro he; have he2 : _ = _ := he; omega) | (intro he; have he2 : _ = some _ := he; have := ow_base (by assumption) he2; omega) | (intro he; have := he.1; omega) | exact bk_not (by assumption) hsm rfl | (refine own_not ?_ hi hsm rfl <;> assumption) | (refine ow_not ?_ hi hsm rfl <;> assumption) | (intro he; have he2 : _ = some _ := he; have := Ow.lt (by assumption) he2; omega) | (intro he; have he2 : _ = some _ := he; have := Ow.lt (by assumption) he2; have := own_base (by assumption) hi; omega) | (intro he; have he2 : _ = some _ := he; have := Ow.lt how he2; first | omega | (have := own_base (by assumption) hi; omega)) | (intro he; have he2 : _ = _ := he; have := own_base (by assumption) hi; omega) | (intro he; have he2 : _ = _ := he; rw [he2] at hi; exact absurd hi (by assumption)) | (intro he; have he2 : _ = some _ := he; exact absurd he2 (hsep _ hi)) | (intro he; first | exact absurd he (by assumption) | exact absurd he.symm (by assumption))) ?_)))))) (by first | exact strs_get _ _ (by assumption) | exact two_get V _ (by assumption) | exact bools_get _ _ (by assumption))) ?_
          refine L_run (.plain rfl) rfl rfl (r_pick_t (v := .bool _) rfl rfl) ?_
          refine L_nil ?_
          refine ⟨⟨rfl, rfl, rfl, rfl, rfl, rfl, trivial⟩, _, rfl, ?_⟩
          rfl
        · refine L_pass rfl rfl rfl rfl rfl ?_
          refine L_pass rfl rfl rfl rfl rfl ?_
          refine L_pass rfl rfl rfl rfl rfl ?_
          refine L_pass rfl rfl rfl rfl rfl ?_
          refine L_run (.plain rfl) rfl rfl (r_pick_f (v := .bool _) rfl rfl) ?_
          refine L_nil ?_
          refine ⟨⟨rfl, rfl, rfl, rfl, rfl, rfl, trivial⟩, _, rfl, ?_⟩
          rfl
      rintro gcr9 w8 ⟨tv, hf53, hCr9⟩
      refine W_as 53 hf53 rfl ?_
      clear hf53
      subst hCr9
      refine W_endF [0, 1, 5, 7, 8] (fun f W => ∃ (q : Int), f 9 = .int .i64 q ∧ ((q = 0 ∨ q = 1) ∧ W = w8)) ?_ ?_
      · refine W_bool rfl (fun h53 => ?_) (fun h53 => ?_)
        · refine W_region ?_
          refine L_run (.plain rfl) rfl rfl (r_assign (v := .int _ _) rfl) ?_
          refine L_nil ?_
          refine ⟨⟨rfl, rfl, rfl, rfl, rfl, trivial⟩, _, rfl, ?_⟩
          exact ⟨by omega, rfl⟩
        · refine W_skip ?_
          refine ⟨⟨rfl, rfl, rfl, rfl, rfl, trivial⟩, _, rfl, ?_⟩
          exact ⟨by omega, rfl⟩
      rintro gct53 w9 ⟨q, hf9, hCt53⟩
      refine W_as 9 hf9 rfl ?_
      clear hf9
      obtain ⟨hq, rfl⟩ := hCt53
      obtain ⟨q, rfl⟩ : ∃ n : Nat, q = n := ⟨q.toNat, by omega⟩
      have hq2 : q < 2 := by omega
      refine W_seq ?_
      refine W_seq ?_
      refine W_region ?_
      refine L_run (.plain rfl) rfl rfl (r_move (by conv => lhs; whnf)) ?_
      refine L_run (.plain rfl) rfl rfl (r_move (v := .int _ _) rfl) ?_
      refine L_run (.plain rfl) rfl rfl (r_idxSl Try.underlying22 (show _ = some 1 from rfl) (by conv => lhs; whnf) rfl (by (exact Sl.to (by first | assumption | exact Sl.own (by assumption) | exact Mu.sl (by assumption) | exact Ow.sl (by assumption)) (fun i hi => by (repeat (first | exact Sm.refl _ _ | (refine Sm.stepT (by assumption) (by intro hlt hsm; first | exact not_no | (intro he; have he2 : _ = some _ := he; have := own_base (by assumption) he2; omega) | (intro he; have he2 : _ = _ := he; omega) | (intro he; have he2 : _ = some _ := he; have := ow_base (by assumption) he2; omega) | (intro he; have := he.1; omega) | exact bk_not (by assumption) hsm rfl | (refine own_not ?_ hi hsm rfl <;> assumption) | (refine ow_not ?_ hi hsm rfl <;> assumption) | (intro he; have he2 : _ = some _ := he; have := Ow.lt (by assumption) he2; omega) | (intro he; have he2 : _ = some _ := he; have := Ow.lt (by assumption) he2; have := own_base (by assumption) hi; omega) | (intro he; have he2 : _ = some _ := he; have := Ow.lt how he2; first | omega | (have := own_base (by assumption) hi; omega)) | (intro he; have he2 : _ = _ := he; have := own_base (by assumption) hi; omega) | (intro he; have he2 : _ = _ := he; rw [he2] at hi; exact absurd hi (by assumption)) | (intro he; have he2 : _ = some _ := he; exact absurd he2 (hsep _ hi)) | (intro he; first | exact absurd he (by assumption) | exact absurd he.symm (by assumption))) ?_)))))) (by omega) (by omega) (by conv => lhs; (try simp only [Nat.mul_one, Nat.zero_add, Int.toNat_natCast, Int.toNat_zero, Int.reduceToNat, Nat.reduceMul, Nat.reduceAdd]))) ?_
      refine L_run (.plain rfl) rfl rfl (r_loadSl rfl rfl (by (exact Sl.to (by first | assumption | exact Sl.own (by assumption) | exact Mu.sl (by assumption) | exact Ow.sl (by assumption)) (fun i hi => by (repeat (first | exact Sm.refl _ _ | (refine Sm.stepT (by assumption) (by intro hlt hsm; first | exact not_no | (intro he; have he2 : _ = some _ := he; have := own_base (by assumption) he2; omega) | (intro he; have he2 : _ = _ := he; omega) | (intro he; have he2 : _ = some _ := he; have := ow_base (by assumption) he2; omega) | (intro he; have := he.1; omega) | exact bk_not (by assumption) hsm rfl | (refine own_not ?_ hi hsm rfl <;> assumption) | (refine ow_not ?_ hi hsm rfl <;> assumption) | (intro he; have he2 : _ = some _ := he; have := Ow.lt (by assumption) he2; omega) | (intro he; have he2 : _ = some _ := he; have := Ow.lt (by assumption) he2; have := own_base (by assumption) hi; omega) | (intro he; have he2 : _ = some _ := he; have := Ow.lt how he2; first | omega | (have := own_base (by assumption) hi; omega)) | (intro he; have he2 : _ = _ := he; have := own_base (by assumption) hi; omega) | (intro he; have he2 : _ = _ := he; rw [he2] at hi; exact absurd hi (by assumption)) | (intro he; have he2 : _ = some _ := he; exact absurd he2 (hsep _ hi)) | (intro he; first | exact absurd he (by assumption) | exact absurd he.symm (by assumption))) ?_)))))) (by first | exact strs_get _ _ (by assumption) | exact two_get V _ (by assumption) | exact bools_get _ _ (by assumption))) ?_
      refine L_run (.plain rfl) rfl rfl (r_lens Try.underlying9 rfl) ?_
      refine L_run (.plain rfl) rfl rfl (r_gtr rfl rfl) ?_
      refine L_run (.plain rfl) rfl rfl (r_move (v := .bool _) rfl) ?_
      refine L_case (d := 60) rfl (fun h60 => ?_) (fun h60 => ?_)
      · refine L_pass rfl rfl rfl rfl rfl ?_
        refine L_pass rfl rfl rfl rfl rfl ?_
        refine L_pass rfl rfl rfl rfl rfl ?_
        refine L_pass rfl rfl rfl rfl rfl ?_
        refine L_pass rfl rfl rfl rfl rfl ?_
        refine L_pass rfl rfl rfl rfl rfl ?_
        refine L_pass rfl rfl rfl rfl rfl ?_
        refine L_pass rfl rfl rfl rfl rfl ?_
        refine L_pass rfl rfl rfl rfl rfl ?_
        refine L_run (.plain rfl) rfl rfl (r_pick_t (v := .bool _) rfl rfl) ?_
        refine L_nil ?_
        refine W_true rfl ?_
        refine W_seq ?_
        refine W_region ?_
        refine L_run (.plain rfl) rfl rfl (r_move (by conv => lhs; whnf)) ?_
        refine L_run (.plain rfl) rfl rfl (r_move (v := .int _ _) rfl) ?_
        refine L_run (.plain rfl) rfl rfl (r_idxSl Try.underlying22 (show _ = some 1 from rfl) (by conv => lhs; whnf) rfl (by (exact Sl.to (by first | assumption | exact Sl.own (by assumption) | exact Mu.sl (by assumption) | exact Ow.sl (by assumption)) (fun i hi => by (repeat (first | exact Sm.refl _ _ | (refine Sm.stepT (by assumption) (by intro hlt hsm; first | exact not_no | (intro he; have he2 : _ = some _ := he; have := own_base (by assumption) he2; omega) | (intro he; have he2 : _ = _ := he; omega) | (intro he; have he2 : _ = some _ := he; have := ow_base (by assumption) he2; omega) | (intro he; have := he.1; omega) | exact bk_not (by assumption) hsm rfl | (refine own_not ?_ hi hsm rfl <;> assumption) | (refine ow_not ?_ hi hsm rfl <;> assumption) | (intro he; have he2 : _ = some _ := he; have := Ow.lt (by assumption) he2; omega) | (intro he; have he2 : _ = some _ := he; have := Ow.lt (by assumption) he2; have := own_base (by assumption) hi; omega) | (intro he; have he2 : _ = some _ := he; have := Ow.lt how he2; first | omega | (have := own_base (by assumption) hi; omega)) | (intro he; have he2 : _ = _ := he; have := own_base (by assumption) hi; omega) | (intro he; have he2 : _ = _ := he; rw [he2] at hi; exact absurd hi (by assumption)) | (intro he; have he2 : _ = some _ := he; exact absurd he2 (hsep _ hi)) | (intro he; first | exact absurd he (by assumption) | exact absurd he.symm (by assumption))) ?_)))))) (by omega) (by omega) (by conv => lhs; (try simp only [Nat.mul_one, Nat.zero_add, Int.toNat_natCast, Int.toNat_zero, Int.reduceToNat, Nat.reduceMul, Nat.reduceAdd]))) ?_
        refine L_run (.plain rfl) rfl rfl (r_loadSl rfl rfl (by (exact Sl.to (by first | assumption | exact Sl.own (by assumption) | exact Mu.sl (by assumption) | exact Ow.sl (by assumption)) (fun i hi => by (repeat (first | exact Sm.refl _ _ | (refine Sm.stepT (by assumption) (by intro hlt hsm; first | exact not_no | (intro he; have he2 : _ = some _ := he; have := own_base (by assumption) he2; omega) | (intro he; have he2 : _ = _ := he; omega) | (intro he; have he2 : _ = some _ := he; have := ow_base (by assumption) he2; omega) | (intro he; have := he.1; omega) | exact bk_not (by assumption) hsm rfl | (refine own_not ?_ hi hsm rfl <;> assumption) | (refine ow_not ?_ hi hsm rfl <;> assumption) | (intro he; have he2 : _ = some _ := he; have := Ow.lt (by assumption) he2; omega) | (intro he; have he2 : _ = some _ := he; have := Ow.lt (by assumption) he2; have := own_base (by assumption) hi; omega) | (intro he; have he2 : _ = some _ := he; have := Ow.lt how he2; first | omega | (have := own_base (by assumption) hi; omega)) | (intro he; have he2 : _ = _ := he; have := own_base (by assumption) hi; omega) | (intro he; have he2 : _ = _ := he; rw [he2] at hi; exact absurd hi (by assumption)) | (intro he; have he2 : _ = some _ := he; exact absurd he2 (hsep _ hi)) | (intro he; first | exact absurd he (by assumption) | exact absurd he.symm (by assumption))) ?_)))))) (by first | exact strs_get _ _ (by assumption) | exact two_get V _ (by assumption) | exact bools_get _ _ (by assumption))) ?_
        refine L_run (.plain rfl) rfl rfl (r_lens Try.underlying9 rfl) ?_
        refine L_run (.plain rfl) rfl rfl (r_gtr rfl rfl) ?_
        refine L_run (.plain rfl) rfl rfl (r_assign (v := .bool _) rfl) ?_
        refine L_nil ?_
        refine W_ret ?_
        refine ret1 (v := .bool _) rfl rfl ?_
        first
          | exact ⟨rfl, by (repeat (first | exact Ch.refl _ | assumption | (refine Ch.fresh ?_ (by assumption) (by intro i hi he; first | exact he | (exfalso; have he2 : _ = some i := he; have := own_base (by assumption) he2; omega) | (exfalso; have he2 : i = _ := he; omega) | (exfalso; have he2 : _ = some i := he; have := ow_base (by assumption) he2; omega) | (exfalso; have := he.1; omega)))))⟩
          | exact ⟨(dec_t (by assumption)).symm, by (repeat (first | exact Ch.refl _ | assumption | (refine Ch.fresh ?_ (by assumption) (by intro i hi he; first | exact he | (exfalso; have he2 : _ = some i := he; have := own_base (by assumption) he2; omega) | (exfalso; have he2 : i = _ := he; omega) | (exfalso; have he2 : _ = some i := he; have := ow_base (by assumption) he2; omega) | (exfalso; have := he.1; omega)))))⟩
      · refine L_run (.yes 6 false rfl rfl) rfl rfl (r_move (v := .pointer _) rfl) ?_
        refine L_run (.yes 6 false rfl rfl) rfl rfl (r_move (v := .int _ _) rfl) ?_
        refine L_run (.yes 6 false rfl rfl) rfl rfl (r_move (by conv => lhs; whnf)) ?_
        refine L_run (.yes 6 false rfl rfl) rfl rfl (r_move (v := .int _ _) rfl) ?_
        refine L_run (.yes 6 false rfl rfl) rfl rfl (r_idxSl Try.underlying22 (show _ = some 1 from rfl) (by conv => lhs; whnf) rfl (by (exact Sl.to (by first | assumption | exact Sl.own (by assumption) | exact Mu.sl (by assumption) | exact Ow.sl (by assumption)) (fun i hi => by (repeat (first | exact Sm.refl _ _ | (refine Sm.stepT (by assumption) (by intro hlt hsm; first | exact not_no | (intro he; have he2 : _ = some _ := he; have := own_base (by assumption) he2; omega) | (intro he; have he2 : _ = _ := he; omega) | (intro he; have he2 : _ = some _ := he; have := ow_base (by assumption) he2; omega) | (intro he; have := he.1; omega) | exact bk_not (by assumption) hsm rfl | (refine own_not ?_ hi hsm rfl <;> assumption) | (refine ow_not ?_ hi hsm rfl <;> assumption) | (intro he; have he2 : _ = some _ := he; have := Ow.lt (by assumption) he2; omega) | (intro he; have he2 : _ = some _ := he; have := Ow.lt (by assumption) he2; have := own_base (by assumption) hi; omega) | (intro he; have he2 : _ = some _ := he; have := Ow.lt how he2; first | omega | (have := own_base (by assumption) hi; omega)) | (intro he; have he2 : _ = _ := he; have := own_base (by assumption) hi; omega) | (intro he; have he2 : _ = _ := he; rw [he2] at hi; exact absurd hi (by assumption)) | (intro he; have he2 : _ = some _ := he; exact absurd he2 (hsep _ hi)) | (intro he; first | exact absurd he (by assumption) | exact absurd he.symm (by assumption))) ?_)))))) (by omega) (by omega) (by conv => lhs; (try simp only [Nat.mul_one, Nat.zero_add, Int.toNat_natCast, Int.toNat_zero, Int.reduceToNat, Nat.reduceMul, Nat.reduceAdd]))) ?_
        refine L_run (.yes 6 false rfl rfl) rfl rfl (r_loadSl rfl rfl (by (exact Sl.to (by first | assumption | exact Sl.own (by assumption) | exact Mu.sl (by assumption) | exact Ow.sl (by assumption)) (fun i hi => by (repeat (first | exact Sm.refl _ _ | (refine Sm.stepT (by assumption) (by intro hlt hsm; first | exact not_no | (intro he; have he2 : _ = some _ := he; have := own_base (by assumption) he2; omega) | (intro he; have he2 : _ = _ := he; omega) | (intro he; have he2 : _ = some _ := he; have := ow_base (by assumption) he2; omega) | (intro he; have := he.1; omega) | exact bk_not (by assumption) hsm rfl | (refine own_not ?_ hi hsm rfl <;> assumption) | (refine ow_not ?_ hi hsm rfl <;> assumption) | (intro he; have he2 : _ = some _ := he; have := Ow.lt (by assumption) he2; omega) | (intro he; have he2 : _ = some _ := he; have := Ow.lt (by assumption) he2; have := own_base (by assumption) hi; omega) | (intro he; have he2 : _ = some _ := he; have := Ow.lt how he2; first | omega | (have := own_base (by assumption) hi; omega)) | (intro he; have he2 : _ = _ := he; have := own_base (by assumption) hi; omega) | (intro he; have he2 : _ = _ := he; rw [he2] at hi; exact absurd hi (by assumption)) | (intro he; have he2 : _ = some _ := he; exact absurd he2 (hsep _ hi)) | (intro he; first | exact absurd he (by assumption) | exact absurd he.symm (by assumption))) ?_)))))) (by first | exact strs_get _ _ (by assumption) | exact two_get V _ (by assumption) | exact bools_get _ _ (by assumption))) ?_
        refine L_sbytes Try.underlying9 Try.underlying31 Try.underlying5 (by first | omega | (simp only [sb_size, ByteArray.size_append]; omega)) (.yes 6 false rfl rfl) rfl rfl (fun v67 w10 hv67 c10 eb10 hs10 => ?_)
        refine L_call (.yes 6 false rfl rfl) rfl rfl (r_call Try.func11 rfl rfl rfl (by rfl)) (put_in _ b 100 q _ (bs z[i]) L _ (NetAt.nw hNi (by (repeat (first | exact Ch.refl _ | assumption | (refine Ch.fresh ?_ (by assumption) (by intro i hi he; first | exact he | (exfalso; have he2 : _ = some i := he; have := own_base (by assumption) he2; omega) | (exfalso; have he2 : i = _ := he; omega) | (exfalso; have he2 : _ = some i := he; have := ow_base (by assumption) he2; omega) | (exfalso; have := he.1; omega))))))) (by omega) (by omega) (by (exact Sl.to (by first | assumption | exact Sl.own (by assumption) | exact Mu.sl (by assumption) | exact Ow.sl (by assumption)) (fun i hi => by (repeat (first | exact Sm.refl _ _ | (refine Sm.stepT (by assumption) (by intro hlt hsm; first | exact not_no | (intro he; have he2 : _ = some _ := he; have := own_base (by assumption) he2; omega) | (intro he; have he2 : _ = _ := he; omega) | (intro he; have he2 : _ = some _ := he; have := ow_base (by assumption) he2; omega) | (intro he; have := he.1; omega) | exact bk_not (by assumption) hsm rfl | (refine own_not ?_ hi hsm rfl <;> assumption) | (refine ow_not ?_ hi hsm rfl <;> assumption) | (intro he; have he2 : _ = some _ := he; have := Ow.lt (by assumption) he2; omega) | (intro he; have he2 : _ = some _ := he; have := Ow.lt (by assumption) he2; have := own_base (by assumption) hi; omega) | (intro he; have he2 : _ = some _ := he; have := Ow.lt how he2; first | omega | (have := own_base (by assumption) hi; omega)) | (intro he; have he2 : _ = _ := he; have := own_base (by assumption) hi; omega) | (intro he; have he2 : _ = _ := he; rw [he2] at hi; exact absurd hi (by assumption)) | (intro he; have he2 : _ = some _ := he; exact absurd he2 (hsep _ hi)) | (intro he; first | exact absurd he (by assumption) | exact absurd he.symm (by assumption))) ?_)))))) (by rw [bs_length]; omega) (by omega)) ?_
        rintro v68 w11 ⟨rfl, hN', c11⟩
        have hz11 := c11.size
        have hR6 := (hR.nw (by (repeat (first | exact Ch.refl _ | assumption | (refine Ch.fresh ?_ (by assumption) (by intro i hi he; first | exact he | (exfalso; have he2 : _ = some i := he; have := own_base (by assumption) he2; omega) | (exfalso; have he2 : i = _ := he; omega) | (exfalso; have he2 : _ = some i := he; have := ow_base (by assumption) he2; omega) | (exfalso; have := he.1; omega))))))).tb c11 rfl
        have hA6 := (hA.nw (by (repeat (first | exact Ch.refl _ | assumption | (refine Ch.fresh ?_ (by assumption) (by intro i hi he; first | exact he | (exfalso; have he2 : _ = some i := he; have := own_base (by assumption) he2; omega) | (exfalso; have he2 : i = _ := he; omega) | (exfalso; have he2 : _ = some i := he; have := ow_base (by assumption) he2; omega) | (exfalso; have := he.1; omega))))))).tb c11 rfl
        have hsep := ow_apart hA6 (hR6.1 q hq2) (by decide)
        have hOq := hR6.1 q hq2
        refine L_run (.yes 6 false rfl rfl) rfl rfl (r_not rfl) ?_
        refine L_as (v := .bool _) (v' := .bool false) 69 rfl (congrArg Value.bool (by rfl)) ?_
        refine L_run (.plain rfl) rfl rfl (r_pick_f (v := .bool _) rfl rfl) ?_
        refine L_nil ?_
        refine W_false rfl ?_
        refine W_skip ?_
        refine W_draw (fun W => Sl W v37 1 2 [V 0, V 1] ∧ Sl W v0 1 z.length (strs z)) 13 (m := 14) (by kernel_rfl) rfl (fun w12 c12 hs12 => ?_)
        refine held (by exact ⟨by (exact Sl.to (by first | assumption | exact Sl.own (by assumption) | exact Mu.sl (by assumption) | exact Ow.sl (by assumption)) (fun i hi => by (repeat (first | exact Sm.refl _ _ | (refine Sm.stepT (by assumption) (by intro hlt hsm; first | exact not_no | (intro he; have he2 : _ = some _ := he; have := own_base (by assumption) he2; omega) | (intro he; have he2 : _ = _ := he; omega) | (intro he; have he2 : _ = some _ := he; have := ow_base (by assumption) he2; omega) | (intro he; have := he.1; omega) | exact bk_not (by assumption) hsm rfl | (refine own_not ?_ hi hsm rfl <;> assumption) | (refine ow_not ?_ hi hsm rfl <;> assumption) | (intro he; have he2 : _ = some _ := he; have := Ow.lt (by assumption) he2; omega) | (intro he; have he2 : _ = some _ := he; have := Ow.lt (by assumption) he2; have := own_base (by assumption) hi; omega) | (intro he; have he2 : _ = some _ := he; have := Ow.lt how he2; first | omega | (have := own_base (by assumption) hi; omega)) | (intro he; have he2 : _ = _ := he; have := own_base (by assumption) hi; omega) | (intro he; have he2 : _ = _ := he; rw [he2] at hi; exact absurd hi (by assumption)) | (intro he; have he2 : _ = some _ := he; exact absurd he2 (hsep _ hi)) | (intro he; first | exact absurd he (by assumption) | exact absurd he.symm (by assumption))) ?_))))), by (exact Sl.to (by first | assumption | exact Sl.own (by assumption) | exact Mu.sl (by assumption) | exact Ow.sl (by assumption)) (fun i hi => by (repeat (first | exact Sm.refl _ _ | (refine Sm.stepT (by assumption) (by intro hlt hsm; first | exact not_no | (intro he; have he2 : _ = some _ := he; have := own_base (by assumption) he2; omega) | (intro he; have he2 : _ = _ := he; omega) | (intro he; have he2 : _ = some _ := he; have := ow_base (by assumption) he2; omega) | (intro he; have := he.1; omega) | exact bk_not (by assumption) hsm rfl | (refine own_not ?_ hi hsm rfl <;> assumption) | (refine ow_not ?_ hi hsm rfl <;> assumption) | (intro he; have he2 : _ = some _ := he; have := Ow.lt (by assumption) he2; omega) | (intro he; have he2 : _ = some _ := he; have := Ow.lt (by assumption) he2; have := own_base (by assumption) hi; omega) | (intro he; have he2 : _ = some _ := he; have := Ow.lt how he2; first | omega | (have := own_base (by assumption) hi; omega)) | (intro he; have he2 : _ = _ := he; have := own_base (by assumption) hi; omega) | (intro he; have he2 : _ = _ := he; rw [he2] at hi; exact absurd hi (by assumption)) | (intro he; have he2 : _ = some _ := he; exact absurd he2 (hsep _ hi)) | (intro he; first | exact absurd he (by assumption) | exact absurd he.symm (by assumption))) ?_)))))⟩) (fun hS => ?_)
        refine D_take 0 rfl (by kernel_rfl) (by kernel_rfl) (by kernel_rfl) (by kernel_rfl) (.plain rfl) rfl rfl (by assumption) (fun W hW => r_move (by conv => lhs; whnf)) ?_
        refine D_take 1 rfl (by kernel_rfl) (by kernel_rfl) (by kernel_rfl) (by kernel_rfl) (.plain rfl) rfl rfl (by assumption) (fun W hW => r_move (v := .int _ _) rfl) ?_
        refine D_take 2 rfl (by kernel_rfl) (by kernel_rfl) (by kernel_rfl) (by kernel_rfl) (.plain rfl) rfl rfl (by assumption) (fun W hW => r_move (by conv => lhs; whnf)) ?_
        refine D_take 3 rfl (by kernel_rfl) (by kernel_rfl) (by kernel_rfl) (by kernel_rfl) (.plain rfl) rfl rfl (by assumption) (fun W hW => r_move (v := .int _ _) rfl) ?_
        refine D_take 4 rfl (by kernel_rfl) (by kernel_rfl) (by kernel_rfl) (by kernel_rfl) (.plain rfl) rfl rfl (by assumption) (fun W hW => r_idxSl Try.underlying29 (show _ = some 1 from rfl) (by conv => lhs; whnf) rfl (by first | exact hW.1 | exact hW.2) (by omega) (by omega) (by conv => lhs; (try simp only [Nat.mul_one, Nat.zero_add, Int.toNat_natCast, Int.toNat_zero, Int.reduceToNat, Nat.reduceMul, Nat.reduceAdd]))) ?_
        refine D_take 5 rfl (by kernel_rfl) (by kernel_rfl) (by kernel_rfl) (by kernel_rfl) (.plain rfl) rfl rfl (by assumption) (fun W hW => r_loadSl rfl rfl (by first | exact hW.1 | exact hW.2) (by first | exact strs_get _ _ (by assumption) | exact two_get V _ (by assumption) | exact bools_get _ _ (by assumption))) ?_
        refine D_take 6 rfl (by kernel_rfl) (by kernel_rfl) (by kernel_rfl) (by kernel_rfl) (.plain rfl) rfl rfl (by assumption) (fun W hW => r_move (by conv => lhs; whnf)) ?_
        refine D_take 7 rfl (by kernel_rfl) (by kernel_rfl) (by kernel_rfl) (by kernel_rfl) (.plain rfl) rfl rfl (by assumption) (fun W hW => r_move (v := .int _ _) rfl) ?_
        refine D_take 8 rfl (by kernel_rfl) (by kernel_rfl) (by kernel_rfl) (by kernel_rfl) (.plain rfl) rfl rfl (by assumption) (fun W hW => r_idxSl Try.underlying22 (show _ = some 1 from rfl) (by conv => lhs; whnf) rfl (by first | exact hW.1 | exact hW.2) (by omega) (by omega) (by conv => lhs; (try simp only [Nat.mul_one, Nat.zero_add, Int.toNat_natCast, Int.toNat_zero, Int.reduceToNat, Nat.reduceMul, Nat.reduceAdd]))) ?_
        refine D_take 9 rfl (by kernel_rfl) (by kernel_rfl) (by kernel_rfl) (by kernel_rfl) (.plain rfl) rfl rfl (by assumption) (fun W hW => r_loadSl rfl rfl (by first | exact hW.1 | exact hW.2) (by first | exact strs_get _ _ (by assumption) | exact two_get V _ (by assumption) | exact bools_get _ _ (by assumption))) ?_
        refine D_ev 10 (by kernel_rfl) rfl ?_
        refine L_build1 [.string _] Try.underlying22 rfl rfl rfl (.plain rfl) rfl (by rfl) (by rfl) (by rfl) (fun b87 w13 hb87 hv87 eb13 hs13 c13 => ?_)
        refine L_nil ?_
        refine heldK (by exact ⟨by (exact Sl.to (by first | assumption | exact Sl.own (by assumption) | exact Mu.sl (by assumption) | exact Ow.sl (by assumption)) (fun i hi => by (repeat (first | exact Sm.refl _ _ | (refine Sm.stepT (by assumption) (by intro hlt hsm; first | exact not_no | (intro he; have he2 : _ = some _ := he; have := own_base (by assumption) he2; omega) | (intro he; have he2 : _ = _ := he; omega) | (intro he; have he2 : _ = some _ := he; have := ow_base (by assumption) he2; omega) | (intro he; have := he.1; omega) | exact bk_not (by assumption) hsm rfl | (refine own_not ?_ hi hsm rfl <;> assumption) | (refine ow_not ?_ hi hsm rfl <;> assumption) | (intro he; have he2 : _ = some _ := he; have := Ow.lt (by assumption) he2; omega) | (intro he; have he2 : _ = some _ := he; have := Ow.lt (by assumption) he2; have := own_base (by assumption) hi; omega) | (intro he; have he2 : _ = some _ := he; have := Ow.lt how he2; first | omega | (have := own_base (by assumption) hi; omega)) | (intro he; have he2 : _ = _ := he; have := own_base (by assumption) hi; omega) | (intro he; have he2 : _ = _ := he; rw [he2] at hi; exact absurd hi (by assumption)) | (intro he; have he2 : _ = some _ := he; exact absurd he2 (hsep _ hi)) | (intro he; first | exact absurd he (by assumption) | exact absurd he.symm (by assumption))) ?_))))), by (exact Sl.to (by first | assumption | exact Sl.own (by assumption) | exact Mu.sl (by assumption) | exact Ow.sl (by assumption)) (fun i hi => by (repeat (first | exact Sm.refl _ _ | (refine Sm.stepT (by assumption) (by intro hlt hsm; first | exact not_no | (intro he; have he2 : _ = some _ := he; have := own_base (by assumption) he2; omega) | (intro he; have he2 : _ = _ := he; omega) | (intro he; have he2 : _ = some _ := he; have := ow_base (by assumption) he2; omega) | (intro he; have := he.1; omega) | exact bk_not (by assumption) hsm rfl | (refine own_not ?_ hi hsm rfl <;> assumption) | (refine ow_not ?_ hi hsm rfl <;> assumption) | (intro he; have he2 : _ = some _ := he; have := Ow.lt (by assumption) he2; omega) | (intro he; have he2 : _ = some _ := he; have := Ow.lt (by assumption) he2; have := own_base (by assumption) hi; omega) | (intro he; have he2 : _ = some _ := he; have := Ow.lt how he2; first | omega | (have := own_base (by assumption) hi; omega)) | (intro he; have he2 : _ = _ := he; have := own_base (by assumption) hi; omega) | (intro he; have he2 : _ = _ := he; rw [he2] at hi; exact absurd hi (by assumption)) | (intro he; have he2 : _ = some _ := he; exact absurd he2 (hsep _ hi)) | (intro he; first | exact absurd he (by assumption) | exact absurd he.symm (by assumption))) ?_)))))⟩) (fun hS => ?_)
        refine D_ev 11 (by kernel_rfl) rfl ?_
        have hTq := hI.len q hq2
        have hR8 := hR6.nw (by (repeat (first | exact Ch.refl _ | assumption | (refine Ch.fresh ?_ (by assumption) (by intro i hi he; first | exact he | (exfalso; have he2 : _ = some i := he; have := own_base (by assumption) he2; omega) | (exfalso; have he2 : i = _ := he; omega) | (exfalso; have he2 : _ = some i := he; have := ow_base (by assumption) he2; omega) | (exfalso; have := he.1; omega))))) : Nw _ w13)
        refine L_apow Try.underlying22 str_info rfl (by decide) (.plain rfl) rfl (by conv => lhs; whnf) (by conv => lhs; whnf) (hR8.1 q hq2) hv87 (by intro y hy; simp at hy; subst hy; rfl) (by unfold maxLen; omega) (by omega) (by omega) (fun v88 w14 ho88 c14 hob88 => ?_)
        have hA9 := (hA6.nw (by (repeat (first | exact Ch.refl _ | assumption | (refine Ch.fresh ?_ (by assumption) (by intro i hi he; first | exact he | (exfalso; have he2 : _ = some i := he; have := own_base (by assumption) he2; omega) | (exfalso; have he2 : i = _ := he; omega) | (exfalso; have he2 : _ = some i := he; have := ow_base (by assumption) he2; omega) | (exfalso; have := he.1; omega))))) : Nw _ w13)).tb (ch_own (hR8.1 q hq2) c14) rfl
        have hN9 := (NetAt.nw hN' (by (repeat (first | exact Ch.refl _ | assumption | (refine Ch.fresh ?_ (by assumption) (by intro i hi he; first | exact he | (exfalso; have he2 : _ = some i := he; have := own_base (by assumption) he2; omega) | (exfalso; have he2 : i = _ := he; omega) | (exfalso; have he2 : _ = some i := he; have := ow_base (by assumption) he2; omega) | (exfalso; have := he.1; omega))))) : Nw _ w13)).tb (ch_own (hR8.1 q hq2) c14) rfl rfl rfl
        have hR9 := hR8.app hq2 ho88 c14 hob88
        refine L_nil ?_
        refine heldK (by exact ⟨by (exact Sl.to (by first | assumption | exact Sl.own (by assumption) | exact Mu.sl (by assumption) | exact Ow.sl (by assumption)) (fun i hi => by (repeat (first | exact Sm.refl _ _ | (refine Sm.stepT (by assumption) (by intro hlt hsm; first | exact not_no | (intro he; have he2 : _ = some _ := he; have := own_base (by assumption) he2; omega) | (intro he; have he2 : _ = _ := he; omega) | (intro he; have he2 : _ = some _ := he; have := ow_base (by assumption) he2; omega) | (intro he; have := he.1; omega) | exact bk_not (by assumption) hsm rfl | (refine own_not ?_ hi hsm rfl <;> assumption) | (refine ow_not ?_ hi hsm rfl <;> assumption) | (intro he; have he2 : _ = some _ := he; have := Ow.lt (by assumption) he2; omega) | (intro he; have he2 : _ = some _ := he; have := Ow.lt (by assumption) he2; have := own_base (by assumption) hi; omega) | (intro he; have he2 : _ = some _ := he; have := Ow.lt how he2; first | omega | (have := own_base (by assumption) hi; omega)) | (intro he; have he2 : _ = _ := he; have := own_base (by assumption) hi; omega) | (intro he; have he2 : _ = _ := he; rw [he2] at hi; exact absurd hi (by assumption)) | (intro he; have he2 : _ = some _ := he; exact absurd he2 (hsep _ hi)) | (intro he; first | exact absurd he (by assumption) | exact absurd he.symm (by assumption))) ?_))))), by (exact Sl.to (by first | assumption | exact Sl.own (by assumption) | exact Mu.sl (by assumption) | exact Ow.sl (by assumption)) (fun i hi => by (repeat (first | exact Sm.refl _ _ | (refine Sm.stepT (by assumption) (by intro hlt hsm; first | exact not_no | (intro he; have he2 : _ = some _ := he; have := own_base (by assumption) he2; omega) | (intro he; have he2 : _ = _ := he; omega) | (intro he; have he2 : _ = some _ := he; have := ow_base (by assumption) he2; omega) | (intro he; have := he.1; omega) | exact bk_not (by assumption) hsm rfl | (refine own_not ?_ hi hsm rfl <;> assumption) | (refine ow_not ?_ hi hsm rfl <;> assumption) | (intro he; have he2 : _ = some _ := he; have := Ow.lt (by assumption) he2; omega) | (intro he; have he2 : _ = some _ := he; have := Ow.lt (by assumption) he2; have := own_base (by assumption) hi; omega) | (intro he; have he2 : _ = some _ := he; have := Ow.lt how he2; first | omega | (have := own_base (by assumption) hi; omega)) | (intro he; have he2 : _ = _ := he; have := own_base (by assumption) hi; omega) | (intro he; have he2 : _ = _ := he; rw [he2] at hi; exact absurd hi (by assumption)) | (intro he; have he2 : _ = some _ := he; exact absurd he2 (hsep _ hi)) | (intro he; first | exact absurd he (by assumption) | exact absurd he.symm (by assumption))) ?_)))))⟩) (fun hS => ?_)
        refine D_take 12 rfl (by kernel_rfl) (by kernel_rfl) (by kernel_rfl) (by kernel_rfl) (.plain rfl) rfl rfl (by assumption) (fun W hW => r_idxSl Try.underlying29 (show _ = some 1 from rfl) (by conv => lhs; whnf) rfl (by first | exact hW.1 | exact hW.2) (by omega) (by omega) (by conv => lhs; (try simp only [Nat.mul_one, Nat.zero_add, Int.toNat_natCast, Int.toNat_zero, Int.reduceToNat, Nat.reduceMul, Nat.reduceAdd]))) ?_
        refine D_ev 13 (by kernel_rfl) rfl ?_
        refine L_setOw (.plain rfl) rfl rfl (u := _) (by conv => lhs; whnf) (by first | rfl | exact ow_one (by assumption) | exact own_one (by assumption) | exact sl_one (by assumption)) (by (exact Ow.to (by first | assumption | exact Ow.of (by assumption)) (fun i hi => by (repeat (first | exact Sm.refl _ _ | (refine Sm.stepT (by assumption) (by intro hlt hsm; first | exact not_no | (intro he; have he2 : _ = some _ := he; have := own_base (by assumption) he2; omega) | (intro he; have he2 : _ = _ := he; omega) | (intro he; have he2 : _ = some _ := he; have := ow_base (by assumption) he2; omega) | (intro he; have := he.1; omega) | exact bk_not (by assumption) hsm rfl | (refine own_not ?_ hi hsm rfl <;> assumption) | (refine ow_not ?_ hi hsm rfl <;> assumption) | (intro he; have he2 : _ = some _ := he; have := Ow.lt (by assumption) he2; omega) | (intro he; have he2 : _ = some _ := he; have := Ow.lt (by assumption) he2; have := own_base (by assumption) hi; omega) | (intro he; have he2 : _ = some _ := he; have := Ow.lt how he2; first | omega | (have := own_base (by assumption) hi; omega)) | (intro he; have he2 : _ = _ := he; have := own_base (by assumption) hi; omega) | (intro he; have he2 : _ = _ := he; rw [he2] at hi; exact absurd hi (by assumption)) | (intro he; have he2 : _ = some _ := he; exact absurd he2 (hsep _ hi)) | (intro he; first | exact absurd he (by assumption) | exact absurd he.symm (by assumption))) ?_)))))) (by exact hq2) (fun w15 hb15 hs15 c15 => ?_)
        refine L_nil ?_
        refine heldL ?_
        refine D_done (by kernel_rfl) ?_
        refine W_region ?_
        refine L_run (.plain rfl) rfl rfl (r_move (v := .int _ _) rfl) ?_
        refine L_run (.plain rfl) rfl rfl (r_add rfl rfl (by first | exact wr_i64 (by omega) | rfl)) ?_
        refine L_run (.plain rfl) rfl rfl (r_assign (v := .int _ _) rfl) ?_
        refine L_nil ?_
        refine ⟨⟨rfl, rfl, rfl, rfl, trivial⟩, _, ?_, i + 1, L ++ [((q : Int), bs z[i])], upT V q v88, upT T q (T q ++ [z[i]]), rfl, ?_, rfl⟩
        · omega
        have cT := ch_own hA9 (by assumption)
        refine ⟨by omega, by rw [List.length_append, hLl]; rfl, hN9.tb cT rfl rfl rfl, hI.put hq2 z[i], hR9.tb cT rfl, ?_, by (repeat (first | exact Ch.refl _ | assumption | (refine Ch.fresh ?_ (by assumption) (by intro i hi he; first | exact he | (exfalso; have he2 : _ = some i := he; have := own_base (by assumption) he2; omega) | (exfalso; have he2 : i = _ := he; omega) | (exfalso; have he2 : _ = some i := he; have := ow_base (by assumption) he2; omega) | (exfalso; have := he.1; omega)))))⟩
        rw [← two_set V q hq2]
        assumption
    · have hfin : i = z.length := by omega
      refine W_exit ?_
      repeat (first | refine blk_hit ?_ | refine blk_miss rfl ?_)
      refine W_seq ?_
      refine W_seq ?_
      refine W_region ?_
      refine L_run (.plain rfl) rfl rfl (r_assign (v := .int _ _) rfl) ?_
      refine L_nil ?_
      refine W_block ?_
      refine W_loopF [5, 7] (fun m f W => ∃ (k : Nat) (K : List (Int × List UInt8)), f 10 = .int .i64 k ∧ (k ≤ 2 ∧ NetAt w0.heap.size W b 100 K ∧ Inv K (fun r => if r < k then [] else T r) ∧ Rows2 w0.heap.size W V T ∧ Ow W w0.heap.size 22 1 v37 2 [V 0, V 1] ∧ K.length ≤ 1024 ∧ Nw w0 W) ∧ m = 2 - k) ?_ ?_
      · refine ⟨_, 0, L, rfl, ?_, rfl⟩
        exact ⟨by omega, NetAt.nw hNi (by (repeat (first | exact Ch.refl _ | assumption | (refine Ch.fresh ?_ (by assumption) (by intro i hi he; first | exact he | (exfalso; have he2 : _ = some i := he; have := own_base (by assumption) he2; omega) | (exfalso; have he2 : i = _ := he; omega) | (exfalso; have he2 : _ = some i := he; have := ow_base (by assumption) he2; omega) | (exfalso; have := he.1; omega)))))), hI, hR.nw (by (repeat (first | exact Ch.refl _ | assumption | (refine Ch.fresh ?_ (by assumption) (by intro i hi he; first | exact he | (exfalso; have he2 : _ = some i := he; have := own_base (by assumption) he2; omega) | (exfalso; have he2 : i = _ := he; omega) | (exfalso; have he2 : _ = some i := he; have := ow_base (by assumption) he2; omega) | (exfalso; have := he.1; omega)))))), hA.nw (by (repeat (first | exact Ch.refl _ | assumption | (refine Ch.fresh ?_ (by assumption) (by intro i hi he; first | exact he | (exfalso; have he2 : _ = some i := he; have := own_base (by assumption) he2; omega) | (exfalso; have he2 : i = _ := he; omega) | (exfalso; have he2 : _ = some i := he; have := ow_base (by assumption) he2; omega) | (exfalso; have := he.1; omega)))))), by omega, by (repeat (first | exact Ch.refl _ | assumption | (refine Ch.fresh ?_ (by assumption) (by intro i hi he; first | exact he | (exfalso; have he2 : _ = some i := he; have := own_base (by assumption) he2; omega) | (exfalso; have he2 : i = _ := he; omega) | (exfalso; have he2 : _ = some i := he; have := ow_base (by assumption) he2; omega) | (exfalso; have := he.1; omega)))))⟩
      rintro m1 g1 w16 ⟨k, K, hf10, hR1, rfl⟩
      refine W_as 10 hf10 rfl ?_
      clear hf10
      obtain ⟨hk, hNk, hIk, hRk, hAk, hKl, hnw1⟩ := hR1
      have hz1 := hnw1.size
      refine W_seq ?_
      refine W_seq ?_
      refine W_region ?_
      refine L_run (.plain rfl) rfl rfl (r_move (v := .int _ _) rfl) ?_
      refine L_run (.plain rfl) rfl rfl (r_lss rfl rfl) ?_
      refine L_nil ?_
      refine W_if rfl (fun h91 => ?_) (fun h91 => ?_)
      · have hk2 : k < 2 := by omega
        refine W_skip ?_
        refine W_seq ?_
        refine W_block ?_
        refine W_seq ?_
        refine W_region ?_
        refine L_run (.plain rfl) rfl rfl (r_assign (v := .int _ _) rfl) ?_
        refine L_nil ?_
        refine W_block ?_
        refine W_loopF [5, 7, 10] (fun m f W => ∃ (j : Nat) (K2 : List (Int × List UInt8)), f 11 = .int .i64 j ∧ (j ≤ (T k).length ∧ NetAt w0.heap.size W b 100 K2 ∧ Inv K2 (fun r => if r < k then [] else if r = k then (T k).drop j else T r) ∧ Rows2 w0.heap.size W V T ∧ Ow W w0.heap.size 22 1 v37 2 [V 0, V 1] ∧ K2.length ≤ 1024 ∧ Nw w0 W) ∧ m = (T k).length - j) ?_ ?_
        · refine ⟨_, 0, K, rfl, ?_, rfl⟩
          exact ⟨by omega, NetAt.nw hNk (by (repeat (first | exact Ch.refl _ | assumption | (refine Ch.fresh ?_ (by assumption) (by intro i hi he; first | exact he | (exfalso; have he2 : _ = some i := he; have := own_base (by assumption) he2; omega) | (exfalso; have he2 : i = _ := he; omega) | (exfalso; have he2 : _ = some i := he; have := ow_base (by assumption) he2; omega) | (exfalso; have := he.1; omega)))))), hIk.ext (fun r hr => by split; rfl; split; (rename_i e; subst e; rfl); rfl), hRk.nw (by (repeat (first | exact Ch.refl _ | assumption | (refine Ch.fresh ?_ (by assumption) (by intro i hi he; first | exact he | (exfalso; have he2 : _ = some i := he; have := own_base (by assumption) he2; omega) | (exfalso; have he2 : i = _ := he; omega) | (exfalso; have he2 : _ = some i := he; have := ow_base (by assumption) he2; omega) | (exfalso; have := he.1; omega)))))), hAk.nw (by (repeat (first | exact Ch.refl _ | assumption | (refine Ch.fresh ?_ (by assumption) (by intro i hi he; first | exact he | (exfalso; have he2 : _ = some i := he; have := own_base (by assumption) he2; omega) | (exfalso; have he2 : i = _ := he; omega) | (exfalso; have he2 : _ = some i := he; have := ow_base (by assumption) he2; omega) | (exfalso; have := he.1; omega)))))), hKl, by (repeat (first | exact Ch.refl _ | assumption | (refine Ch.fresh ?_ (by assumption) (by intro i hi he; first | exact he | (exfalso; have he2 : _ = some i := he; have := own_base (by assumption) he2; omega) | (exfalso; have he2 : i = _ := he; omega) | (exfalso; have he2 : _ = some i := he; have := ow_base (by assumption) he2; omega) | (exfalso; have := he.1; omega)))))⟩
        rintro m2 g2 w17 ⟨j, K2, hf11, hR2, rfl⟩
        refine W_as 11 hf11 rfl ?_
        clear hf11
        obtain ⟨hj, hNj, hIj, hRj, hAj, hKl2, hnw2⟩ := hR2
        have hz2 := hnw2.size
        have hOk := hRj.1 k (by omega)
        have hTk := hI.len k (by omega)
        refine W_seq ?_
        refine W_seq ?_
        refine W_region ?_
        refine L_run (.plain rfl) rfl rfl (r_move (v := .int _ _) rfl) ?_
        refine L_run (.plain rfl) rfl rfl (r_move (by conv => lhs; whnf)) ?_
        refine L_run (.plain rfl) rfl rfl (r_move (v := .int _ _) rfl) ?_
        refine L_run (.plain rfl) rfl rfl (r_idxSl Try.underlying29 (show _ = some 1 from rfl) (by conv => lhs; whnf) rfl (by (exact Sl.to (by first | assumption | exact Sl.own (by assumption) | exact Mu.sl (by assumption) | exact Ow.sl (by assumption)) (fun i hi => by (repeat (first | exact Sm.refl _ _ | (refine Sm.stepT (by assumption) (by intro hlt hsm; first | exact not_no | (intro he; have he2 : _ = some _ := he; have := own_base (by assumption) he2; omega) | (intro he; have he2 : _ = _ := he; omega) | (intro he; have he2 : _ = some _ := he; have := ow_base (by assumption) he2; omega) | (intro he; have := he.1; omega) | exact bk_not (by assumption) hsm rfl | (refine own_not ?_ hi hsm rfl <;> assumption) | (refine ow_not ?_ hi hsm rfl <;> assumption) | (intro he; have he2 : _ = some _ := he; have := Ow.lt (by assumption) he2; omega) | (intro he; have he2 : _ = some _ := he; have := Ow.lt (by assumption) he2; have := own_base (by assumption) hi; omega) | (intro he; have he2 : _ = some _ := he; have := Ow.lt how he2; first | omega | (have := own_base (by assumption) hi; omega)) | (intro he; have he2 : _ = _ := he; have := own_base (by assumption) hi; omega) | (intro he; have he2 : _ = _ := he; rw [he2] at hi; exact absurd hi (by assumption)) | (intro he; have he2 : _ = some _ := he; exact absurd he2 (hsep _ hi)) | (intro he; first | exact absurd he (by assumption) | exact absurd he.symm (by assumption))) ?_)))))) (by omega) (by omega) (by conv => lhs; (try simp only [Nat.mul_one, Nat.zero_add, Int.toNat_natCast, Int.toNat_zero, Int.reduceToNat, Nat.reduceMul, Nat.reduceAdd]))) ?_
        refine L_run (.plain rfl) rfl rfl (r_loadSl rfl rfl (by (exact Sl.to (by first | assumption | exact Sl.own (by assumption) | exact Mu.sl (by assumption) | exact Ow.sl (by assumption)) (fun i hi => by (repeat (first | exact Sm.refl _ _ | (refine Sm.stepT (by assumption) (by intro hlt hsm; first | exact not_no | (intro he; have he2 : _ = some _ := he; have := own_base (by assumption) he2; omega) | (intro he; have he2 : _ = _ := he; omega) | (intro he; have he2 : _ = some _ := he; have := ow_base (by assumption) he2; omega) | (intro he; have := he.1; omega) | exact bk_not (by assumption) hsm rfl | (refine own_not ?_ hi hsm rfl <;> assumption) | (refine ow_not ?_ hi hsm rfl <;> assumption) | (intro he; have he2 : _ = some _ := he; have := Ow.lt (by assumption) he2; omega) | (intro he; have he2 : _ = some _ := he; have := Ow.lt (by assumption) he2; have := own_base (by assumption) hi; omega) | (intro he; have he2 : _ = some _ := he; have := Ow.lt how he2; first | omega | (have := own_base (by assumption) hi; omega)) | (intro he; have he2 : _ = _ := he; have := own_base (by assumption) hi; omega) | (intro he; have he2 : _ = _ := he; rw [he2] at hi; exact absurd hi (by assumption)) | (intro he; have he2 : _ = some _ := he; exact absurd he2 (hsep _ hi)) | (intro he; first | exact absurd he (by assumption) | exact absurd he.symm (by assumption))) ?_)))))) (by first | exact strs_get _ _ (by assumption) | exact two_get V _ (by assumption) | exact bools_get _ _ (by assumption))) ?_
        refine L_run (.plain rfl) rfl rfl (r_lenSl Try.underlying22 (by conv => lhs; whnf) (by (exact Sl.to (by first | assumption | exact Sl.own (by assumption) | exact Mu.sl (by assumption) | exact Ow.sl (by assumption)) (fun i hi => by (repeat (first | exact Sm.refl _ _ | (refine Sm.stepT (by assumption) (by intro hlt hsm; first | exact not_no | (intro he; have he2 : _ = some _ := he; have := own_base (by assumption) he2; omega) | (intro he; have he2 : _ = _ := he; omega) | (intro he; have he2 : _ = some _ := he; have := ow_base (by assumption) he2; omega) | (intro he; have := he.1; omega) | exact bk_not (by assumption) hsm rfl | (refine own_not ?_ hi hsm rfl <;> assumption) | (refine ow_not ?_ hi hsm rfl <;> assumption) | (intro he; have he2 : _ = some _ := he; have := Ow.lt (by assumption) he2; omega) | (intro he; have he2 : _ = some _ := he; have := Ow.lt (by assumption) he2; have := own_base (by assumption) hi; omega) | (intro he; have he2 : _ = some _ := he; have := Ow.lt how he2; first | omega | (have := own_base (by assumption) hi; omega)) | (intro he; have he2 : _ = _ := he; have := own_base (by assumption) hi; omega) | (intro he; have he2 : _ = _ := he; rw [he2] at hi; exact absurd hi (by assumption)) | (intro he; have he2 : _ = some _ := he; exact absurd he2 (hsep _ hi)) | (intro he; first | exact absurd he (by assumption) | exact absurd he.symm (by assumption))) ?_))))))) ?_
        refine L_run (.plain rfl) rfl rfl (r_lss rfl rfl) ?_
        refine L_nil ?_
        refine W_if rfl (fun h100 => ?_) (fun h100 => ?_)
        · have hlt3 : j < (T k).length := by omega
          refine W_skip ?_
          refine W_seq ?_
          refine W_block ?_
          refine W_seq ?_
          refine W_region ?_
          refine L_run (.plain rfl) rfl rfl (r_move (v := .pointer _) rfl) ?_
          refine L_run (.plain rfl) rfl rfl (r_move (v := .pointer _) rfl) ?_
          refine L_run (.plain rfl) rfl rfl (r_move (v := .int _ _) rfl) ?_
          refine L_call (.plain rfl) rfl rfl (r_call Try.func13 rfl rfl rfl (by rfl)) (first_walk _ b 100 k K2 _ (NetAt.nw hNj (by (repeat (first | exact Ch.refl _ | assumption | (refine Ch.fresh ?_ (by assumption) (by intro i hi he; first | exact he | (exfalso; have he2 : _ = some i := he; have := own_base (by assumption) he2; omega) | (exfalso; have he2 : i = _ := he; omega) | (exfalso; have he2 : _ = some i := he; have := ow_base (by assumption) he2; omega) | (exfalso; have := he.1; omega))))))) hKl2) ?_
          rintro v107 w18 ⟨x, rfl, hx, c18⟩
          have hz18 := c18.size
          obtain ⟨kk, hkk, rfl, h1, h2, hI2⟩ := hIj.take hk2 (s := (T k)[j]) (rest := (T k).drop (j + 1)) (by rw [if_neg (by omega), if_pos rfl]; exact List.drop_eq_getElem_cons hlt3) hx
          refine L_call (.plain rfl) rfl rfl (r_call Try.func12 rfl rfl rfl (by rfl)) (take_in _ b kk 100 K2 _ (NetAt.nw hNj (by (repeat (first | exact Ch.refl _ | assumption | (refine Ch.fresh ?_ (by assumption) (by intro i hi he; first | exact he | (exfalso; have he2 : _ = some i := he; have := own_base (by assumption) he2; omega) | (exfalso; have he2 : i = _ := he; omega) | (exfalso; have he2 : _ = some i := he; have := ow_base (by assumption) he2; omega) | (exfalso; have := he.1; omega))))))) hkk hKl2 (by omega)) ?_
          rintro v108 w19 ⟨u, rfl, hu, hN2, c19⟩
          have hz19 := c19.size
          rw [h2] at hu
          have hux := hu.1
          have hR20 := (hRj.nw (by (repeat (first | exact Ch.refl _ | assumption | (refine Ch.fresh ?_ (by assumption) (by intro i hi he; first | exact he | (exfalso; have he2 : _ = some i := he; have := own_base (by assumption) he2; omega) | (exfalso; have he2 : i = _ := he; omega) | (exfalso; have he2 : _ = some i := he; have := ow_base (by assumption) he2; omega) | (exfalso; have := he.1; omega))))))).tb c19 rfl
          have hA20 := (hAj.nw (by (repeat (first | exact Ch.refl _ | assumption | (refine Ch.fresh ?_ (by assumption) (by intro i hi he; first | exact he | (exfalso; have he2 : _ = some i := he; have := own_base (by assumption) he2; omega) | (exfalso; have he2 : i = _ := he; omega) | (exfalso; have he2 : _ = some i := he; have := ow_base (by assumption) he2; omega) | (exfalso; have := he.1; omega))))))).tb c19 rfl
          have hOk2 := hR20.1 k hk2
          refine L_run (.plain rfl) rfl rfl (r_move (by conv => lhs; whnf)) ?_
          refine L_run (.plain rfl) rfl rfl (r_ext3_0 rfl) ?_
          refine L_run (.plain rfl) rfl rfl (r_ext3_1 rfl) ?_
          refine L_run (.plain rfl) rfl rfl (r_ext3_2 rfl) ?_
          refine L_run (.plain rfl) rfl rfl (r_assign (v := .int _ _) rfl) ?_
          refine L_run (.plain rfl) rfl rfl (r_assign (by conv => lhs; whnf)) ?_
          refine L_run (.plain rfl) rfl rfl (r_assign (v := .bool _) rfl) ?_
          refine L_nil ?_
          refine W_seq ?_
          refine W_still (by kernel_rfl) (by kernel_rfl) (fun w20 c20 hs20 => ?_)
          refine H_run (.plain rfl) rfl rfl (r_move (v := .int _ _) rfl) ?_
          refine H_run (.plain rfl) rfl rfl (r_move (v := .int _ _) rfl) ?_
          refine H_run (.plain rfl) rfl rfl (r_neq rfl rfl) ?_
          refine H_run (.plain rfl) rfl rfl (r_move (v := .bool _) rfl) ?_
          refine H_as (v := .bool _) (v' := .bool false) 115 rfl (dec_f (by exact fun h => h h1)).symm ?_
          refine H_run (.yes 3 false rfl rfl) rfl rfl (r_move (v := .bool _) rfl) ?_
          refine H_run (.yes 3 false rfl rfl) rfl rfl (r_not rfl) ?_
          refine H_run (.plain rfl) rfl rfl (r_pick_f (v := .bool _) rfl rfl) ?_
          refine H_run (.plain rfl) rfl rfl (r_move (v := .bool _) rfl) ?_
          refine H_as (v := .bool _) (v' := .bool false) 119 rfl (congrArg Value.bool (by rfl)) ?_
          refine H_run (.yes 7 false rfl rfl) rfl rfl (r_move (by conv => lhs; whnf)) ?_
          refine H_run (.yes 7 false rfl rfl) rfl rfl (r_bstr Try.underlying31 Try.underlying5 Try.underlying9 (by conv => lhs; whnf) (by (exact Sl.to (by first | assumption | exact Sl.own (by assumption) | exact Mu.sl (by assumption) | exact Ow.sl (by assumption)) (fun i hi => by (repeat (first | exact Sm.refl _ _ | (refine Sm.stepT (by assumption) (by intro hlt hsm; first | exact not_no | (intro he; have he2 : _ = some _ := he; have := own_base (by assumption) he2; omega) | (intro he; have he2 : _ = _ := he; omega) | (intro he; have he2 : _ = some _ := he; have := ow_base (by assumption) he2; omega) | (intro he; have := he.1; omega) | exact bk_not (by assumption) hsm rfl | (refine own_not ?_ hi hsm rfl <;> assumption) | (refine ow_not ?_ hi hsm rfl <;> assumption) | (intro he; have he2 : _ = some _ := he; have := Ow.lt (by assumption) he2; omega) | (intro he; have he2 : _ = some _ := he; have := Ow.lt (by assumption) he2; have := own_base (by assumption) hi; omega) | (intro he; have he2 : _ = some _ := he; have := Ow.lt how he2; first | omega | (have := own_base (by assumption) hi; omega)) | (intro he; have he2 : _ = _ := he; have := own_base (by assumption) hi; omega) | (intro he; have he2 : _ = _ := he; rw [he2] at hi; exact absurd hi (by assumption)) | (intro he; have he2 : _ = some _ := he; exact absurd he2 (hsep _ hi)) | (intro he; first | exact absurd he (by assumption) | exact absurd he.symm (by assumption))) ?_))))))) ?_
          refine H_run (.yes 7 false rfl rfl) rfl rfl (r_move (by conv => lhs; whnf)) ?_
          refine H_run (.yes 7 false rfl rfl) rfl rfl (r_move (v := .int _ _) rfl) ?_
          refine H_run (.yes 7 false rfl rfl) rfl rfl (r_idxSl Try.underlying29 (show _ = some 1 from rfl) (by conv => lhs; whnf) rfl (by (exact Sl.to (by first | assumption | exact Sl.own (by assumption) | exact Mu.sl (by assumption) | exact Ow.sl (by assumption)) (fun i hi => by (repeat (first | exact Sm.refl _ _ | (refine Sm.stepT (by assumption) (by intro hlt hsm; first | exact not_no | (intro he; have he2 : _ = some _ := he; have := own_base (by assumption) he2; omega) | (intro he; have he2 : _ = _ := he; omega) | (intro he; have he2 : _ = some _ := he; have := ow_base (by assumption) he2; omega) | (intro he; have := he.1; omega) | exact bk_not (by assumption) hsm rfl | (refine own_not ?_ hi hsm rfl <;> assumption) | (refine ow_not ?_ hi hsm rfl <;> assumption) | (intro he; have he2 : _ = some _ := he; have := Ow.lt (by assumption) he2; omega) | (intro he; have he2 : _ = some _ := he; have := Ow.lt (by assumption) he2; have := own_base (by assumption) hi; omega) | (intro he; have he2 : _ = some _ := he; have := Ow.lt how he2; first | omega | (have := own_base (by assumption) hi; omega)) | (intro he; have he2 : _ = _ := he; have := own_base (by assumption) hi; omega) | (intro he; have he2 : _ = _ := he; rw [he2] at hi; exact absurd hi (by assumption)) | (intro he; have he2 : _ = some _ := he; exact absurd he2 (hsep _ hi)) | (intro he; first | exact absurd he (by assumption) | exact absurd he.symm (by assumption))) ?_)))))) (by omega) (by omega) (by conv => lhs; (try simp only [Nat.mul_one, Nat.zero_add, Int.toNat_natCast, Int.toNat_zero, Int.reduceToNat, Nat.reduceMul, Nat.reduceAdd]))) ?_
          refine H_run (.yes 7 false rfl rfl) rfl rfl (r_loadSl rfl rfl (by (exact Sl.to (by first | assumption | exact Sl.own (by assumption) | exact Mu.sl (by assumption) | exact Ow.sl (by assumption)) (fun i hi => by (repeat (first | exact Sm.refl _ _ | (refine Sm.stepT (by assumption) (by intro hlt hsm; first | exact not_no | (intro he; have he2 : _ = some _ := he; have := own_base (by assumption) he2; omega) | (intro he; have he2 : _ = _ := he; omega) | (intro he; have he2 : _ = some _ := he; have := ow_base (by assumption) he2; omega) | (intro he; have := he.1; omega) | exact bk_not (by assumption) hsm rfl | (refine own_not ?_ hi hsm rfl <;> assumption) | (refine ow_not ?_ hi hsm rfl <;> assumption) | (intro he; have he2 : _ = some _ := he; have := Ow.lt (by assumption) he2; omega) | (intro he; have he2 : _ = some _ := he; have := Ow.lt (by assumption) he2; have := own_base (by assumption) hi; omega) | (intro he; have he2 : _ = some _ := he; have := Ow.lt how he2; first | omega | (have := own_base (by assumption) hi; omega)) | (intro he; have he2 : _ = _ := he; have := own_base (by assumption) hi; omega) | (intro he; have he2 : _ = _ := he; rw [he2] at hi; exact absurd hi (by assumption)) | (intro he; have he2 : _ = some _ := he; exact absurd he2 (hsep _ hi)) | (intro he; first | exact absurd he (by assumption) | exact absurd he.symm (by assumption))) ?_)))))) (by first | exact strs_get _ _ (by assumption) | exact two_get V _ (by assumption) | exact bools_get _ _ (by assumption))) ?_
          refine H_run (.yes 7 false rfl rfl) rfl rfl (r_move (v := .int _ _) rfl) ?_
          refine H_run (.yes 7 false rfl rfl) rfl rfl (r_idxSl Try.underlying22 (show _ = some 1 from rfl) (by conv => lhs; whnf) rfl (by (exact Sl.to (by first | assumption | exact Sl.own (by assumption) | exact Mu.sl (by assumption) | exact Ow.sl (by assumption)) (fun i hi => by (repeat (first | exact Sm.refl _ _ | (refine Sm.stepT (by assumption) (by intro hlt hsm; first | exact not_no | (intro he; have he2 : _ = some _ := he; have := own_base (by assumption) he2; omega) | (intro he; have he2 : _ = _ := he; omega) | (intro he; have he2 : _ = some _ := he; have := ow_base (by assumption) he2; omega) | (intro he; have := he.1; omega) | exact bk_not (by assumption) hsm rfl | (refine own_not ?_ hi hsm rfl <;> assumption) | (refine ow_not ?_ hi hsm rfl <;> assumption) | (intro he; have he2 : _ = some _ := he; have := Ow.lt (by assumption) he2; omega) | (intro he; have he2 : _ = some _ := he; have := Ow.lt (by assumption) he2; have := own_base (by assumption) hi; omega) | (intro he; have he2 : _ = some _ := he; have := Ow.lt how he2; first | omega | (have := own_base (by assumption) hi; omega)) | (intro he; have he2 : _ = _ := he; have := own_base (by assumption) hi; omega) | (intro he; have he2 : _ = _ := he; rw [he2] at hi; exact absurd hi (by assumption)) | (intro he; have he2 : _ = some _ := he; exact absurd he2 (hsep _ hi)) | (intro he; first | exact absurd he (by assumption) | exact absurd he.symm (by assumption))) ?_)))))) (by omega) (by omega) (by conv => lhs; (try simp only [Nat.mul_one, Nat.zero_add, Int.toNat_natCast, Int.toNat_zero, Int.reduceToNat, Nat.reduceMul, Nat.reduceAdd]))) ?_
          refine H_run (.yes 7 false rfl rfl) rfl rfl (r_loadSl rfl rfl (by (exact Sl.to (by first | assumption | exact Sl.own (by assumption) | exact Mu.sl (by assumption) | exact Ow.sl (by assumption)) (fun i hi => by (repeat (first | exact Sm.refl _ _ | (refine Sm.stepT (by assumption) (by intro hlt hsm; first | exact not_no | (intro he; have he2 : _ = some _ := he; have := own_base (by assumption) he2; omega) | (intro he; have he2 : _ = _ := he; omega) | (intro he; have he2 : _ = some _ := he; have := ow_base (by assumption) he2; omega) | (intro he; have := he.1; omega) | exact bk_not (by assumption) hsm rfl | (refine own_not ?_ hi hsm rfl <;> assumption) | (refine ow_not ?_ hi hsm rfl <;> assumption) | (intro he; have he2 : _ = some _ := he; have := Ow.lt (by assumption) he2; omega) | (intro he; have he2 : _ = some _ := he; have := Ow.lt (by assumption) he2; have := own_base (by assumption) hi; omega) | (intro he; have he2 : _ = some _ := he; have := Ow.lt how he2; first | omega | (have := own_base (by assumption) hi; omega)) | (intro he; have he2 : _ = _ := he; have := own_base (by assumption) hi; omega) | (intro he; have he2 : _ = _ := he; rw [he2] at hi; exact absurd hi (by assumption)) | (intro he; have he2 : _ = some _ := he; exact absurd he2 (hsep _ hi)) | (intro he; first | exact absurd he (by assumption) | exact absurd he.symm (by assumption))) ?_)))))) (by first | exact strs_get _ _ (by assumption) | exact two_get V _ (by assumption) | exact bools_get _ _ (by assumption))) ?_
          refine H_run (.yes 7 false rfl rfl) rfl rfl (r_neqs rfl rfl) ?_
          refine H_as (v := .bool _) (v' := .bool false) 129 rfl (dec_f (by exact fun h => h (sb_bs _))).symm ?_
          refine H_run (.plain rfl) rfl rfl (r_pick_f (v := .bool _) rfl rfl) ?_
          refine H_nil ?_
          refine W_false rfl ?_
          refine W_skip ?_
          refine W_region ?_
          refine L_run (.plain rfl) rfl rfl (r_move (v := .int _ _) rfl) ?_
          refine L_run (.plain rfl) rfl rfl (r_add rfl rfl (by first | exact wr_i64 (by omega) | rfl)) ?_
          refine L_run (.plain rfl) rfl rfl (r_assign (v := .int _ _) rfl) ?_
          refine L_nil ?_
          refine ⟨⟨rfl, rfl, rfl, trivial⟩, _, ?_, j + 1, K2.eraseIdx kk, rfl, ?_, rfl⟩
          · omega
          refine ⟨by omega, NetAt.nw hN2 (by (repeat (first | exact Ch.refl _ | assumption | (refine Ch.fresh ?_ (by assumption) (by intro i hi he; first | exact he | (exfalso; have he2 : _ = some i := he; have := own_base (by assumption) he2; omega) | (exfalso; have he2 : i = _ := he; omega) | (exfalso; have he2 : _ = some i := he; have := ow_base (by assumption) he2; omega) | (exfalso; have := he.1; omega)))))), hI2.ext (fun r hr => ?_), hR20.nw (by (repeat (first | exact Ch.refl _ | assumption | (refine Ch.fresh ?_ (by assumption) (by intro i hi he; first | exact he | (exfalso; have he2 : _ = some i := he; have := own_base (by assumption) he2; omega) | (exfalso; have he2 : i = _ := he; omega) | (exfalso; have he2 : _ = some i := he; have := ow_base (by assumption) he2; omega) | (exfalso; have := he.1; omega)))))), hA20.nw (by (repeat (first | exact Ch.refl _ | assumption | (refine Ch.fresh ?_ (by assumption) (by intro i hi he; first | exact he | (exfalso; have he2 : _ = some i := he; have := own_base (by assumption) he2; omega) | (exfalso; have he2 : i = _ := he; omega) | (exfalso; have he2 : _ = some i := he; have := ow_base (by assumption) he2; omega) | (exfalso; have := he.1; omega)))))), by rw [List.length_eraseIdx]; split <;> omega, by (repeat (first | exact Ch.refl _ | assumption | (refine Ch.fresh ?_ (by assumption) (by intro i hi he; first | exact he | (exfalso; have he2 : _ = some i := he; have := own_base (by assumption) he2; omega) | (exfalso; have he2 : i = _ := he; omega) | (exfalso; have he2 : _ = some i := he; have := ow_base (by assumption) he2; omega) | (exfalso; have := he.1; omega)))))⟩
          by_cases e2 : r = k
          · subst e2; rw [upT_same]; simp
          · rw [upT_ne _ _ _ _ e2]; by_cases e1 : r < k <;> simp [e1, e2]
        · have hj3 : j = (T k).length := by omega
          refine W_exit ?_
          repeat (first | refine blk_hit ?_ | refine blk_miss rfl ?_)
          refine W_region ?_
          refine L_run (.plain rfl) rfl rfl (r_move (v := .int _ _) rfl) ?_
          refine L_run (.plain rfl) rfl rfl (r_add rfl rfl (by first | exact wr_i64 (by omega) | rfl)) ?_
          refine L_run (.plain rfl) rfl rfl (r_assign (v := .int _ _) rfl) ?_
          refine L_nil ?_
          refine ⟨⟨rfl, rfl, trivial⟩, _, ?_, k + 1, K2, rfl, ?_, rfl⟩
          · omega
          refine ⟨by omega, NetAt.nw hNj (by (repeat (first | exact Ch.refl _ | assumption | (refine Ch.fresh ?_ (by assumption) (by intro i hi he; first | exact he | (exfalso; have he2 : _ = some i := he; have := own_base (by assumption) he2; omega) | (exfalso; have he2 : i = _ := he; omega) | (exfalso; have he2 : _ = some i := he; have := ow_base (by assumption) he2; omega) | (exfalso; have := he.1; omega)))))), hIj.ext (fun r hr => ?_), hRj.nw (by (repeat (first | exact Ch.refl _ | assumption | (refine Ch.fresh ?_ (by assumption) (by intro i hi he; first | exact he | (exfalso; have he2 : _ = some i := he; have := own_base (by assumption) he2; omega) | (exfalso; have he2 : i = _ := he; omega) | (exfalso; have he2 : _ = some i := he; have := ow_base (by assumption) he2; omega) | (exfalso; have := he.1; omega)))))), hAj.nw (by (repeat (first | exact Ch.refl _ | assumption | (refine Ch.fresh ?_ (by assumption) (by intro i hi he; first | exact he | (exfalso; have he2 : _ = some i := he; have := own_base (by assumption) he2; omega) | (exfalso; have he2 : i = _ := he; omega) | (exfalso; have he2 : _ = some i := he; have := ow_base (by assumption) he2; omega) | (exfalso; have := he.1; omega)))))), hKl2, by (repeat (first | exact Ch.refl _ | assumption | (refine Ch.fresh ?_ (by assumption) (by intro i hi he; first | exact he | (exfalso; have he2 : _ = some i := he; have := own_base (by assumption) he2; omega) | (exfalso; have he2 : i = _ := he; omega) | (exfalso; have he2 : _ = some i := he; have := ow_base (by assumption) he2; omega) | (exfalso; have := he.1; omega)))))⟩
          by_cases e1 : r < k
          · rw [if_pos e1, if_pos (by omega)]
          · rw [if_neg e1]
            by_cases e2 : r = k
            · subst e2; rw [if_pos rfl, if_pos (by omega), hj3, List.drop_length]
            · rw [if_neg e2, if_neg (by omega)]
      · have hk2 : k = 2 := by omega
        have hK0 : K = [] := hIk.nil (if_pos (by omega)) (if_pos (by omega))
        subst hK0
        refine W_exit ?_
        repeat (first | refine blk_hit ?_ | refine blk_miss rfl ?_)
        refine W_seq ?_
        refine W_region ?_
        refine L_run (.plain rfl) rfl rfl (r_move (v := .pointer _) rfl) ?_
        refine L_call (.plain rfl) rfl rfl (r_call Try.func14 rfl rfl rfl (by rfl)) (len_walk _ b 100 [] _ (NetAt.nw hNk (by (repeat (first | exact Ch.refl _ | assumption | (refine Ch.fresh ?_ (by assumption) (by intro i hi he; first | exact he | (exfalso; have he2 : _ = some i := he; have := own_base (by assumption) he2; omega) | (exfalso; have he2 : i = _ := he; omega) | (exfalso; have he2 : _ = some i := he; have := ow_base (by assumption) he2; omega) | (exfalso; have := he.1; omega)))))))) ?_
        rintro v132 w21 ⟨rfl, rfl⟩
        refine L_run (.plain rfl) rfl rfl (r_eql rfl rfl) ?_
        refine L_run (.plain rfl) rfl rfl (r_move (v := .bool _) rfl) ?_
        refine L_as (v := .bool _) (v' := .bool true) 134 rfl (dec_t (by rfl)).symm ?_
        refine L_run (.yes 3 true rfl rfl) rfl rfl (r_move (v := .pointer _) rfl) ?_
        refine L_call (.yes 3 true rfl rfl) rfl rfl (r_call Try.func13 rfl rfl rfl (by rfl)) (first_walk _ b 100 0 [] _ (NetAt.nw hNk (by (repeat (first | exact Ch.refl _ | assumption | (refine Ch.fresh ?_ (by assumption) (by intro i hi he; first | exact he | (exfalso; have he2 : _ = some i := he; have := own_base (by assumption) he2; omega) | (exfalso; have he2 : i = _ := he; omega) | (exfalso; have he2 : _ = some i := he; have := ow_base (by assumption) he2; omega) | (exfalso; have := he.1; omega))))))) (by decide)) ?_
        rintro v136 w22 ⟨x, rfl, hx, c22⟩
        have hz22 := c22.size
        obtain rfl := first_none hx (by simp)
        refine L_run (.yes 3 true rfl rfl) rfl rfl (r_eql rfl rfl) ?_
        refine L_run (.plain rfl) rfl rfl (r_pick_t (v := .bool _) rfl rfl) ?_
        refine L_run (.plain rfl) rfl rfl (r_move (v := .bool _) rfl) ?_
        refine L_as (v := .bool _) (v' := .bool true) 139 rfl (dec_t (by rfl)).symm ?_
        refine L_run (.yes 8 true rfl rfl) rfl rfl (r_move (v := .pointer _) rfl) ?_
        refine L_call (.yes 8 true rfl rfl) rfl rfl (r_call Try.func13 rfl rfl rfl (by rfl)) (first_walk _ b 100 1 [] _ (NetAt.nw hNk (by (repeat (first | exact Ch.refl _ | assumption | (refine Ch.fresh ?_ (by assumption) (by intro i hi he; first | exact he | (exfalso; have he2 : _ = some i := he; have := own_base (by assumption) he2; omega) | (exfalso; have he2 : i = _ := he; omega) | (exfalso; have he2 : _ = some i := he; have := ow_base (by assumption) he2; omega) | (exfalso; have := he.1; omega))))))) (by decide)) ?_
        rintro v141 w23 ⟨x, rfl, hx, c23⟩
        have hz23 := c23.size
        obtain rfl := first_none hx (by simp)
        refine L_run (.yes 8 true rfl rfl) rfl rfl (r_eql rfl rfl) ?_
        refine L_run (.plain rfl) rfl rfl (r_pick_t (v := .bool _) rfl rfl) ?_
        refine L_run (.plain rfl) rfl rfl (r_assign (v := .bool _) rfl) ?_
        refine L_nil ?_
        refine W_ret ?_
        refine ret1 (v := .bool _) rfl rfl ?_
        first
          | exact ⟨rfl, by (repeat (first | exact Ch.refl _ | assumption | (refine Ch.fresh ?_ (by assumption) (by intro i hi he; first | exact he | (exfalso; have he2 : _ = some i := he; have := own_base (by assumption) he2; omega) | (exfalso; have he2 : i = _ := he; omega) | (exfalso; have he2 : _ = some i := he; have := ow_base (by assumption) he2; omega) | (exfalso; have := he.1; omega)))))⟩
          | exact ⟨(dec_t (by assumption)).symm, by (repeat (first | exact Ch.refl _ | assumption | (refine Ch.fresh ?_ (by assumption) (by intro i hi he; first | exact he | (exfalso; have he2 : _ = some i := he; have := own_base (by assumption) he2; omega) | (exfalso; have he2 : i = _ := he; omega) | (exfalso; have he2 : _ = some i := he; have := ow_base (by assumption) he2; omega) | (exfalso; have := he.1; omega)))))⟩
end Go.Proofs.Ytplkjhoadnjkmaa

