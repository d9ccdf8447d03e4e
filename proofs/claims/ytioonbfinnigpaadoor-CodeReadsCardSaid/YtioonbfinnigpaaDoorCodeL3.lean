/- The statement CodeReads, walked. -/
import Derived.Test.YtioonbfinnigpaaDoorCodeA
import Derived.Test.YtioonbfinnigpaaDoorCodeC
import Derived.Test.YtioonbfinnigpaaDoorRef04c
namespace Go.Proofs.YtioonbfinnigpaaDoor
open Go Go.RowKit
set_option linter.unusedVariables false
set_option linter.unusedSimpArgs false
set_option maxRecDepth 100000
theorem cut_nl (l : List UInt8) : (∃ p t, l = p ++ 10 :: t ∧ (∀ c ∈ p, c ≠ (10 : UInt8)) ∧ Lib.cut l [10] = (p, t, true)) ∨ ((∀ c ∈ l, c ≠ (10 : UInt8)) ∧ Lib.cut l [10] = (l, [], false)) := by
  unfold Lib.cut
  rw [Lib.index_one]
  have hge := Lib.indexByte_ge l 10
  by_cases h : 0 ≤ Lib.indexByte l 10
  · left
    rw [if_pos h]
    obtain ⟨o, ho⟩ : ∃ o : Nat, Lib.indexByte l 10 = o := ⟨(Lib.indexByte l 10).toNat, by omega⟩
    obtain ⟨h1, h2⟩ := Lib.indexByte_some ho
    obtain ⟨hol, hoe⟩ := List.getElem?_eq_some_iff.1 h1
    refine ⟨l.take o, l.drop (o + 1), ?_, ?_, ?_⟩
    · conv => lhs; rw [← List.take_append_drop o l, List.drop_eq_getElem_cons hol, hoe]
    · intro c hc e
      obtain ⟨j, hj, hje⟩ := List.mem_iff_getElem.1 hc
      rw [List.length_take] at hj
      have := h2 j (by omega)
      apply this
      rw [List.getElem_take] at hje
      rw [List.getElem?_eq_getElem (by omega), hje, e]
    · rw [ho]; rfl
  · right
    rw [if_neg h]
    refine ⟨fun c hc e => ?_, rfl⟩
    obtain ⟨j, hj, hje⟩ := List.mem_iff_getElem.1 hc
    have := Lib.indexByte_none (show Lib.indexByte l 10 = -1 by omega) j
    apply this
    rw [List.getElem?_eq_getElem hj, hje, e]
theorem cut_mem (l p : List UInt8) : (∀ c ∈ (Lib.cut l p).1, c ∈ l) ∧ (∀ c ∈ (Lib.cut l p).2.1, c ∈ l) := by
  unfold Lib.cut
  split
  · exact ⟨fun c hc => List.mem_of_mem_take hc, fun c hc => List.mem_of_mem_drop hc⟩
  · exact ⟨fun c hc => hc, fun c hc => absurd hc (by simp)⟩
theorem digits_no (u : Nat) : ∀ c ∈ Lib.decDigits u, c ≠ (10 : UInt8) := by
  induction u using Nat.strongRecOn with
  | ind u ih =>
    intro c hc
    have key : ∀ v : Nat, v < 10 → UInt8.ofNat (48 + v) ≠ 10 := by
      intro v hv e
      have := congrArg UInt8.toNat e
      rw [UInt8.toNat_ofNat'] at this
      have h2 : (10 : UInt8).toNat = 10 := rfl
      omega
    by_cases h : u < 10
    · rw [Lib.decDigits, dif_pos h, List.mem_singleton] at hc
      rw [hc]; exact key u h
    · rw [Lib.decDigits, dif_neg h, List.mem_append, List.mem_singleton] at hc
      rcases hc with hc | hc
      · exact ih (u / 10) (by omega) c hc
      · rw [hc]; exact key (u % 10) (by omega)
theorem itoa_no (n : Int) : ∀ c ∈ Lib.itoa n, c ≠ (10 : UInt8) := by
  unfold Lib.itoa
  split
  · intro c hc
    rcases List.mem_cons.1 hc with h | h
    · rw [h]; decide
    · exact digits_no _ c h
  · exact digits_no _
theorem lin_form (x : Ins) (h1 : ∀ c ∈ bs x.op, c ≠ (10 : UInt8)) (h2 : ∀ c ∈ bs x.s, c ≠ (10 : UInt8)) : ∃ p, bs (linF x) = p ++ [10] ∧ ∀ c ∈ p, c ≠ (10 : UInt8) := by
  unfold linF linT
  split
  · refine ⟨bs x.op ++ ([32] ++ Lib.itoa x.n), by rw [bs_append, bs_append, bs_append, bs_sb]; simp; rfl, fun c hc => ?_⟩
    rcases List.mem_append.1 hc with h | h
    · exact h1 c h
    · rcases List.mem_append.1 h with h | h
      · rw [List.mem_singleton.1 h]; decide
      · exact itoa_no _ c h
  · split
    · refine ⟨bs x.op ++ ([32] ++ bs x.s), by rw [bs_append, bs_append, bs_append]; simp; rfl, fun c hc => ?_⟩
      rcases List.mem_append.1 hc with h | h
      · exact h1 c h
      · rcases List.mem_append.1 h with h | h
        · rw [List.mem_singleton.1 h]; decide
        · exact h2 c h
    · exact ⟨bs x.op, by rw [bs_append]; rfl, h1⟩
theorem insL_mem (one : ByteArray) : (∀ c ∈ bs (insL one).op, c ∈ bs one) ∧ (∀ c ∈ bs (insL one).s, c ∈ bs one) := by
  have hm := cut_mem (bs one) [32]
  constructor
  · intro c hc
    have hc' : c ∈ bs (sb (Lib.cut (bs one) [32]).1) := hc
    rw [bs_sb] at hc'
    exact hm.1 c hc'
  · intro c hc
    unfold insL insT' at hc
    simp only at hc
    split at hc
    · exact absurd hc (by simp [bs])
    · split at hc
      · rw [bs_sb] at hc; exact hm.2 c hc
      · exact absurd hc (by simp [bs])
/-- A line that a text begins with, and the rest. -/
theorem line_rest {s : ByteArray} (h : Lib.hasPrefix (bs s) (bs (linF (insL (oneL s)))) = true) : linF (insL (oneL s)) ++ restL s = s := by
  have hp : bs (linF (insL (oneL s))) <+: bs s := List.isPrefixOf_iff_prefix.1 h
  obtain ⟨t, ht⟩ := hp
  have hno : ∀ c ∈ bs (oneL s), c ≠ (10 : UInt8) := by
    unfold oneL
    rw [bs_sb]
    rcases cut_nl (bs s) with ⟨p, t, _, h2, h3⟩ | ⟨h2, h3⟩
    · rw [h3]; exact h2
    · rw [h3]; exact h2
  obtain ⟨m1, m2⟩ := insL_mem (oneL s)
  obtain ⟨p, hp1, hp2⟩ := lin_form (insL (oneL s)) (fun c hc => hno c (m1 c hc)) (fun c hc => hno c (m2 c hc))
  rw [hp1] at ht
  rw [← bs_inj, bs_append, hp1]
  have key : ∀ (p q t u : List UInt8), (∀ c ∈ p, c ≠ (10 : UInt8)) → (∀ c ∈ q, c ≠ (10 : UInt8)) → p ++ 10 :: t = q ++ 10 :: u → t = u := by
    intro p
    induction p with
    | nil =>
      intro q t u _ hq e
      cases q with
      | nil => simpa using e
      | cons c q => simp at e; exact absurd e.1.symm (hq c List.mem_cons_self)
    | cons c p ih =>
      intro q t u hp hq e
      cases q with
      | nil => simp at e; exact absurd e.1 (hp c List.mem_cons_self)
      | cons d q =>
        simp at e
        exact ih q t u (fun x hx => hp x (List.mem_cons_of_mem _ hx)) (fun x hx => hq x (List.mem_cons_of_mem _ hx)) e.2
  unfold restL
  rw [bs_sb]
  rcases cut_nl (bs s) with ⟨q, u, h1, h2, h3⟩ | ⟨h2, h3⟩
  · rw [h3]
    rw [h1] at ht
    have := key p q t u hp2 h2 (by simpa using ht)
    rw [h1, ← ht, this]
  · exfalso
    refine h2 10 ?_ rfl
    rw [← ht]; simp
theorem readN_law : ∀ (k : Nat) (s : ByteArray) (acc z : List Ins), s.size < k → s.size ≤ 3000 → readN k s acc = some z → ∃ y, z = acc ++ y ∧ allI y = 0 ∧ showB y { data := #[] } = s ∧ (∀ x ∈ y, insR x) ∧ y.length ≤ s.size
  | 0, s, acc, z, h, _, _ => by omega
  | k + 1, s, acc, z, h, hs, hr => by
    unfold readN at hr
    split at hr
    · rename_i h0
      injection hr with hr
      exact ⟨[], by simp [hr], rfl, by rw [h0]; rfl, fun x hx => absurd hx (by simp), Nat.zero_le _⟩
    · rename_i h0
      split at hr
      · cases hr
      · rename_i h1
        have h2 : checkI (insL (oneL s)) = 0 := Classical.not_not.1 fun h => h1 (.inl h)
        have h3 : Lib.hasPrefix (bs s) (bs (linF (insL (oneL s)))) = true := by
          cases hh : Lib.hasPrefix (bs s) (bs (linF (insL (oneL s)))) with
          | true => rfl
          | false => exact absurd (.inr hh) h1
        have hl := restL_less h0
        obtain ⟨y, e1, e2, e3, e4, e5⟩ := readN_law k (restL s) _ z (by omega) (by omega) hr
        refine ⟨insL (oneL s) :: y, by rw [e1]; simp, ?_, ?_, ?_, by rw [List.length_cons]; omega⟩
        · show (if checkI (insL (oneL s)) ≠ 0 then checkI (insL (oneL s)) else allI y) = 0
          rw [h2, if_neg (by decide)]; exact e2
        · show showB y ({ data := #[] } ++ linF (insL (oneL s))) = s
          have he : ({ data := #[] } : ByteArray) ++ linF (insL (oneL s)) = linF (insL (oneL s)) ++ { data := #[] } := by rw [← bs_inj, bs_append, bs_append]; simp [bs]
          rw [he, showB_app, e3]
          exact line_rest h3
        · intro x hx
          rcases List.mem_cons.1 hx with rfl | hx
          · have ho := oneL_le s
            have hb := bs_length (oneL s)
            have hc := cut_le (bs (oneL s)) [32]
            refine ⟨?_, ?_, ?_⟩
            · unfold insL insT'
              simp only
              split
              · exact parseV_range _
              · omega
            · show (Lib.cut (bs (oneL s)) [32]).1.length ≤ _
              omega
            · unfold insL insT'
              simp only
              split
              · exact Nat.zero_le _
              · split
                · show (Lib.cut (bs (oneL s)) [32]).2.1.length ≤ _
                  omega
                · exact Nat.zero_le _
          · exact e4 x hx
theorem read_law {s : ByteArray} {z : List Ins} (hs : s.size ≤ 3000) (h : readL s = some z) : allI z = 0 ∧ showB z { data := #[] } = s ∧ (∀ x ∈ z, insR x) ∧ z.length ≤ 3000 := by
  obtain ⟨y, e1, e2, e3, e4, e5⟩ := readN_law _ s [] z (Nat.lt_succ_self _) hs h
  rw [List.nil_append] at e1
  subst e1
  exact ⟨e2, e3, e4, by omega⟩
theorem reads_key {s : ByteArray} {w : World} {n : Nat} {v : Value} {e : Int} (hs : s.size ≤ 3000) (hno : readL s = none → e = 42 ∧ v = .slice none 0 0) (hyes : ∀ z, readL s = some z → e = 0 ∧ Ow w n 23 3 v z.length (cellsI z)) :
    (∃ z : List Ins, e = 0 ∧ (allI z = 0 ∧ showB z { data := #[] } = s ∧ (∀ x ∈ z, insR x) ∧ z.length ≤ 3000) ∧ Ow w n 23 3 v z.length (cellsI z)) ∨ (e = 42 ∧ v = .slice none 0 0) := by
  cases h : readL s with
  | none => exact .inr (hno h)
  | some z => exact .inl ⟨z, (hyes z h).1, read_law hs h, (hyes z h).2⟩
theorem key_l {A : List Ins → Prop} {B : Prop} (h : (∃ z, A z) ∨ B) (hn : ¬ B) : ∃ z, A z := h.resolve_right hn
theorem key_r {A : List Ins → Prop} {B : Prop} (h : (∃ z, A z) ∨ B) (hn : ∀ z, ¬ A z) : B := h.resolve_left fun ⟨z, hz⟩ => hn z hz
set_option maxHeartbeats 1000000 in
theorem CodeReads_walk (s : ByteArray) (w0 : World) (hs : s.size ≤ 140737488351232) (hL : Lv w0 ∧ Ev w0.heap.size w0) : Does Tryd.prog 6 #[.string s] w0 (fun r w' => r = .bool true ∧ Nw w0 w') := by
  have hG := fun W (c : Nw w0 W) => hL.1.gv.nw c (Nat.le_refl _)
  have hF := fun W (c : Nw w0 W) => hL.1.fv.nw c (Nat.le_refl _)
  have hE := fun W (c : Nw w0 W) => hL.2.nw c (Nat.le_refl _)
  refine fn_of (n := 38) (args := [.string s]) Tryd.func6 rfl rfl rfl ?_
  refine W_seq ?_
  refine W_region ?_
  refine L_r (r_ab rfl) ?_
  refine L_nil ?_
  refine W_seq ?_
  refine W_seq ?_
  refine W_region ?_
  refine L_r (r_ms rfl) ?_
  refine L_r (r_lens Tryd.underlying9 rfl) ?_
  refine L_r (r_gtr rfl rfl) ?_
  refine L_nil ?_
  refine W_if rfl (fun h7 => ?_) (fun h7 => ?_)
  · refine W_seq ?_
    refine W_region ?_
    refine L_call (.plain rfl) rfl rfl (r_call Tryd.func8 rfl rfl rfl (by rfl)) (awake04_walk w0.heap.size _ (hG _ Ch.au) (hF _ Ch.au) (by omega)) ?_
    rintro v8 w1 ⟨rfl, c1⟩
    have hz1 := c1.size
    refine L_r (r_ab rfl) ?_
    refine L_nil ?_
    refine W_ret ?_
    refine ret1 (v := .bool _) rfl rfl ?_
    refine ⟨?_, Ch.au⟩
    first
    | rfl
    | exact congrArg Value.bool (decide_eq_true hsh)
    | (trace_state; sorry)
  · refine W_skip ?_
    refine W_seq ?_
    refine W_region ?_
    refine L_r (r_ms rfl) ?_
    refine L_call (.plain rfl) rfl rfl (r_call Tryd.func18 rfl rfl rfl (by rfl)) (iread_walk w0.heap.size s _ (hG _ Ch.au) (hF _ Ch.au) (hE _ Ch.au) (by omega) (by omega)) ?_
    rintro v11 w2 ⟨v11, e11, rfl, hno, hyes, c2⟩
    have hz2 := c2.size
    have key := reads_key (by omega) hno hyes
    refine L_r (r_mv) ?_
    refine L_r (r_ext2_0 rfl) ?_
    refine L_r (r_ext2_1 rfl) ?_
    refine L_r (r_av) ?_
    refine L_r (r_ai rfl) ?_
    refine L_nil ?_
    refine W_seq ?_
    refine W_seq ?_
    refine W_region ?_
    refine L_r (r_mi rfl) ?_
    refine L_r (r_neq rfl rfl) ?_
    refine L_nil ?_
    refine W_if rfl (fun h15 => ?_) (fun h15 => ?_)
    · obtain ⟨he, hv⟩ := key_r key (fun z hz => h15 hz.1)
      subst he hv
      have hnil := Sl.nil w2 3
      refine W_seq ?_
      refine W_region ?_
      refine L_call (.plain rfl) rfl rfl (r_call Tryd.func8 rfl rfl rfl (by rfl)) (awake04_walk w0.heap.size _ (hG _ Ch.au) (hF _ Ch.au) (by omega)) ?_
      rintro v16 w3 ⟨rfl, c3⟩
      have hz3 := c3.size
      refine L_r (r_mb rfl) ?_
      refine L_as (v := .bool _) (v' := .bool true) 17 rfl (congrArg Value.bool (by rfl)) ?_
      refine L_g (r_mi rfl) ?_
      refine L_g (r_eql rfl rfl) ?_
      refine L_r (r_pt rfl rfl) ?_
      refine L_as (v := .bool _) (v' := .bool true) 20 rfl (dec_t (by rfl)).symm ?_
      refine L_r (r_mb rfl) ?_
      refine L_g (r_mv) ?_
      refine L_g (r_lenSl Tryd.underlying25 (by conv => lhs; whnf) Sl.au) ?_
      refine L_g (r_eql rfl rfl) ?_
      refine L_r (r_pt rfl rfl) ?_
      refine L_r (r_ab rfl) ?_
      refine L_nil ?_
      refine W_ret ?_
      refine ret1 (v := .bool _) rfl rfl ?_
      refine ⟨?_, Ch.au⟩
      first
      | rfl
      | exact congrArg Value.bool (decide_eq_true hsh)
      | (trace_state; sorry)
    · obtain ⟨z, he, ⟨ha, hsh, hxr, hzl⟩, hO⟩ := key_l key (fun hz => by rw [hz.1] at h15; exact h15 (by decide))
      subst he
      refine W_skip ?_
      refine W_seq ?_
      refine W_region ?_
      refine L_call (.plain rfl) rfl rfl (r_call Tryd.func8 rfl rfl rfl (by rfl)) (awake04_walk w0.heap.size _ (hG _ Ch.au) (hF _ Ch.au) (by omega)) ?_
      rintro v26 w4 ⟨rfl, c4⟩
      have hz4 := c4.size
      refine L_r (r_mb rfl) ?_
      refine L_as (v := .bool _) (v' := .bool true) 27 rfl (congrArg Value.bool (by rfl)) ?_
      refine L_g (r_mv) ?_
      refine L_call (.yes 1 true rfl rfl) rfl rfl (r_call Tryd.func19 rfl rfl rfl (by rfl)) (rall04_walk _ z _ Sl.au (by omega) (fun x hx => by have := (hxr x hx).2; omega)) ?_
      rintro v29 w5 ⟨rfl, c5⟩
      have hz5 := c5.size
      refine L_g (r_eql rfl rfl) ?_
      refine L_as (v := .bool _) (v' := .bool true) 30 rfl (dec_t (by exact ha)).symm ?_
      refine L_r (r_pt rfl rfl) ?_
      refine L_r (r_mb rfl) ?_
      refine L_g (r_mv) ?_
      refine L_call (.yes 6 true rfl rfl) rfl rfl (r_call Tryd.func20 rfl rfl rfl (by rfl)) (rshow04_walk _ z _ Sl.au (by omega) hxr (all_ok ha)) ?_
      rintro v34 w6 ⟨rfl, c6⟩
      have hz6 := c6.size
      refine L_g (r_ms rfl) ?_
      refine L_g (r_eqls rfl rfl) ?_
      refine L_r (r_pt rfl rfl) ?_
      refine L_r (r_ab rfl) ?_
      refine L_nil ?_
      refine W_ret ?_
      refine ret1 (v := .bool _) rfl rfl ?_
      refine ⟨?_, Ch.au⟩
      first
      | rfl
      | exact congrArg Value.bool (decide_eq_true hsh)
      | (trace_state; sorry)
end Go.Proofs.YtioonbfinnigpaaDoor

