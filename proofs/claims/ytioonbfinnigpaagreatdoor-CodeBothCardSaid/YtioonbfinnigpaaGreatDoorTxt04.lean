/- What a right text's bytes are; a text cut at a byte; a number read as it is written. -/
import Derived.Test.YtioonbfinnigpaaGreatDoorCode9
namespace Go.Proofs.YtioonbfinnigpaaGreatDoor
open Go Go.RowKit
set_option linter.unusedVariables false
set_option linter.unusedSimpArgs false
set_option maxRecDepth 100000
/-- A byte of a name, of a kind, of a member. -/
def gb (c : UInt8) : Prop := c.toNat < 128 ∧ c.toNat ≠ 10
instance (c : UInt8) : Decidable (gb c) := inferInstanceAs (Decidable (_ ∧ _))
theorem name_gb {s : ByteArray} (h : nameP s) : ∀ c ∈ bs s, gb c := by
  obtain ⟨_, h2, _, h4⟩ := h
  intro b hb
  obtain ⟨i, hi, rfl⟩ := List.mem_iff_getElem.1 hb
  have hi2 : i < s.size := by rw [bs_length] at hi; exact hi
  have h5 := h4 i hi2
  have e : bat s i = (bs s)[i]'hi := by show (bs s).getD i 0 = _; rw [List.getD_eq_getElem?_getD, List.getElem?_eq_getElem hi, Option.getD_some]
  rw [e] at h5
  unfold nameC greatC smallC digitC at h5
  unfold gb
  omega
theorem plain_gb {s : ByteArray} (h : plainP s) : ∀ c ∈ bs s, gb c := by
  have key : ∀ l : List UInt8, (l.all fun c => decide (c.toNat < 128 ∧ c.toNat ≠ 10)) = true → ∀ c ∈ l, gb c := fun l h c hc => of_decide_eq_true (List.all_eq_true.1 h c hc)
  rcases h with rfl | rfl | rfl <;> exact key _ (by decide)
theorem ends_split {l : List UInt8} (h : endsA l = true) : l = l.take (l.length - 2) ++ [91, 93] := by
  have h' : ([91, 93] : List UInt8).isSuffixOf l = true := h
  obtain ⟨t, ht⟩ := List.isSuffixOf_iff_suffix.1 h'
  rw [← ht]; simp
theorem base_gb : ∀ (k : Nat) (l : List UInt8), l.length = k → (∀ c ∈ (baseF l).1, gb c) → ∀ c ∈ l, gb c := by
  intro k
  induction k using Nat.strongRecOn with
  | ind k ih =>
    intro l hl hb
    cases h : endsA l with
    | false => rw [baseF_no h] at hb; exact hb
    | true =>
      have h2 := endsA_le h
      rw [baseF_yes h] at hb
      have h3 := ih (l.length - 2) (by omega) (l.take (l.length - 2)) (by rw [List.length_take]; omega) hb
      intro c hc
      rw [ends_split h] at hc
      rcases List.mem_append.1 hc with hc | hc
      · exact h3 c hc
      · simp at hc
        rcases hc with rfl | rfl <;> exact ⟨by decide, by decide⟩
theorem right_gb {s : ByteArray} (h : rightK s) : ∀ c ∈ bs s, gb c := by
  refine base_gb _ (bs s) rfl ?_
  have e : (baseF (bs s)).1 = bs (baseS s) := by unfold baseS; rw [bs_sb]
  rw [e]
  rcases h.2 with h | h
  · exact plain_gb h
  · exact name_gb h.1
theorem cut_cases (c : UInt8) (l : List UInt8) : (∃ p t, l = p ++ c :: t ∧ (∀ x ∈ p, x ≠ c) ∧ Lib.cut l [c] = (p, t, true)) ∨ ((∀ x ∈ l, x ≠ c) ∧ Lib.cut l [c] = (l, [], false)) := by
  unfold Lib.cut
  rw [Lib.index_one]
  have hge := Lib.indexByte_ge l c
  by_cases h : 0 ≤ Lib.indexByte l c
  · left
    rw [if_pos h]
    obtain ⟨o, ho⟩ : ∃ o : Nat, Lib.indexByte l c = o := ⟨(Lib.indexByte l c).toNat, by omega⟩
    obtain ⟨h1, h2⟩ := Lib.indexByte_some ho
    obtain ⟨hol, hoe⟩ := List.getElem?_eq_some_iff.1 h1
    refine ⟨l.take o, l.drop (o + 1), ?_, ?_, ?_⟩
    · conv => lhs; rw [← List.take_append_drop o l, List.drop_eq_getElem_cons hol, hoe]
    · intro x hx e
      obtain ⟨j, hj, hje⟩ := List.mem_iff_getElem.1 hx
      rw [List.length_take] at hj
      have := h2 j (by omega)
      apply this
      rw [List.getElem_take] at hje
      rw [List.getElem?_eq_getElem (by omega), hje, e]
    · rw [ho]; rfl
  · right
    rw [if_neg h]
    refine ⟨fun x hx e => ?_, rfl⟩
    obtain ⟨j, hj, hje⟩ := List.mem_iff_getElem.1 hx
    have := Lib.indexByte_none (show Lib.indexByte l c = -1 by omega) j
    apply this
    rw [List.getElem?_eq_getElem hj, hje, e]
theorem split_one {c : UInt8} : ∀ (p q t u : List UInt8), (∀ x ∈ p, x ≠ c) → (∀ x ∈ q, x ≠ c) → p ++ c :: t = q ++ c :: u → p = q ∧ t = u
  | [], [], t, u, _, _, e => by simpa using e
  | [], d :: q, t, u, _, hq, e => by simp at e; exact absurd e.1.symm (hq d List.mem_cons_self)
  | a :: p, [], t, u, hp, _, e => by simp at e; exact absurd e.1 (hp a List.mem_cons_self)
  | a :: p, d :: q, t, u, hp, hq, e => by
    simp at e
    obtain ⟨h1, h2⟩ := split_one p q t u (fun x hx => hp x (List.mem_cons_of_mem _ hx)) (fun x hx => hq x (List.mem_cons_of_mem _ hx)) e.2
    rw [e.1, h1]; exact ⟨rfl, h2⟩
theorem cut_at {c : UInt8} {p t : List UInt8} (hp : ∀ x ∈ p, x ≠ c) : Lib.cut (p ++ c :: t) [c] = (p, t, true) := by
  rcases cut_cases c (p ++ c :: t) with ⟨q, u, h1, h2, h3⟩ | ⟨h1, _⟩
  · obtain ⟨rfl, rfl⟩ := split_one _ _ _ _ hp h2 h1
    exact h3
  · exact absurd rfl (h1 c (by simp))
theorem cut_no {c : UInt8} {p : List UInt8} (hp : ∀ x ∈ p, x ≠ c) : Lib.cut p [c] = (p, [], false) := by
  rcases cut_cases c p with ⟨q, u, h1, h2, h3⟩ | ⟨_, h⟩
  · exact absurd rfl (hp c (by rw [h1]; simp))
  · exact h
theorem parts_gb {s : ByteArray} (h : (partsO s).isSome = true) : ∀ c ∈ bs s, gb c := by
  unfold partsO at h
  split at h
  · rename_i hc
    obtain ⟨h1, h2, h3⟩ := hc
    rcases cut_cases 46 (bs s) with ⟨p, t, e1, _, e2⟩ | ⟨_, e2⟩
    · rw [e2] at h2 h3
      have k1 := name_gb h2.1
      have k2 := name_gb h3.1
      rw [bs_sb] at k1 k2
      intro c hc
      rw [e1] at hc
      rcases List.mem_append.1 hc with hc | hc
      · exact k1 c hc
      · rcases List.mem_cons.1 hc with rfl | hc
        · exact ⟨by decide, by decide⟩
        · exact k2 c hc
    · rw [e2] at h1; cases h1
  · cases h
theorem gb_valid {s : ByteArray} (h : ∀ c ∈ bs s, gb c) : Lib.validD (bs s) = true := by
  rw [Lib.validD_ascii s.size (bs s) (fun b hb => (h b (List.mem_of_mem_take hb)).1), List.drop_of_length_le (by rw [bs_length]; omega)]
  rfl
theorem text_good {o s : ByteArray} (h : textP o s) : Lib.validD (bs s) = true ∧ ∀ c ∈ bs s, c ≠ (10 : UInt8) := by
  have key : (∀ c ∈ bs s, gb c) → Lib.validD (bs s) = true ∧ ∀ c ∈ bs s, c ≠ (10 : UInt8) := fun k => ⟨gb_valid k, fun c hc e => (k c hc).2 (by rw [e]; rfl)⟩
  unfold textP at h
  split at h
  · refine ⟨h.2.1, fun c hc e => ?_⟩
    have hn : Lib.contains (bs s) [10] = false := h.2.2
    unfold Lib.contains at hn
    rw [Lib.index_one] at hn
    have hI : ¬ 0 ≤ Lib.indexByte (bs s) 10 := of_decide_eq_false hn
    have hge := Lib.indexByte_ge (bs s) 10
    obtain ⟨j, hj, hje⟩ := List.mem_iff_getElem.1 hc
    have := Lib.indexByte_none (show Lib.indexByte (bs s) 10 = -1 by omega) j
    apply this
    rw [List.getElem?_eq_getElem hj, hje, e]
  · split at h
    · exact key (name_gb h.1)
    · split at h
      · exact key (right_gb h.1)
      · split at h
        · exact key (right_gb h.1)
        · exact key (parts_gb h)
/-! ### numbers -/
theorem pu_app (M d : Nat) (c : UInt8) (hc : c.toNat = 48 + d) (hd : d < 10) : ∀ (l : List UInt8) (a b : Nat), Lib.parseUintM M a l = .ok b → b < 1844674407370955162 → b * 10 + d ≤ M → Lib.parseUintM M a (l ++ [c]) = .ok (b * 10 + d)
  | [], a, b, h, h1, h2 => by
    have e : a = b := by unfold Lib.parseUintM at h; injection h
    subst e
    show Lib.parseUintM M a [c] = _
    unfold Lib.parseUintM
    rw [if_pos (by omega), if_neg (by omega), if_neg (by omega)]
    unfold Lib.parseUintM
    congr 1; omega
  | x :: l, a, b, h, h1, h2 => by
    show Lib.parseUintM M a (x :: (l ++ [c])) = _
    unfold Lib.parseUintM at h ⊢
    split at h
    · rename_i g1
      rw [if_pos g1]
      split at h
      · cases h
      · rename_i g2
        rw [if_neg g2]
        split at h
        · cases h
        · rename_i g3
          rw [if_neg g3]
          exact pu_app M d c hc hd l _ b h h1 h2
    · cases h
theorem pu_digits (u : Nat) (hu : u ≤ 18446744073709551615) : Lib.parseUintM 18446744073709551615 0 (Lib.decDigits u) = .ok u := by
  induction u using Nat.strongRecOn with
  | ind u ih =>
    by_cases h : u < 10
    · rw [Lib.decDigits, dif_pos h]
      have := pu_app 18446744073709551615 u (UInt8.ofNat (48 + u)) (by rw [UInt8.toNat_ofNat']; omega) h [] 0 0 (by unfold Lib.parseUintM; rfl) (by decide) (by omega)
      simpa using this
    · rw [Lib.decDigits, dif_neg h]
      have i := ih (u / 10) (by omega) (by omega)
      have := pu_app 18446744073709551615 (u % 10) (UInt8.ofNat (48 + u % 10)) (by rw [UInt8.toNat_ofNat']; omega) (by omega) _ 0 _ i (by omega) (by omega)
      rw [this]; congr 1; omega
theorem dd_head (u : Nat) : ∃ c t, Lib.decDigits u = c :: t ∧ 48 ≤ c.toNat ∧ c.toNat ≤ 57 := by
  induction u using Nat.strongRecOn with
  | ind u ih =>
    by_cases h : u < 10
    · rw [Lib.decDigits, dif_pos h]
      exact ⟨_, [], rfl, by rw [UInt8.toNat_ofNat']; omega, by rw [UInt8.toNat_ofNat']; omega⟩
    · rw [Lib.decDigits, dif_neg h]
      obtain ⟨c, t, e, h1, h2⟩ := ih (u / 10) (by omega)
      exact ⟨c, t ++ [UInt8.ofNat (48 + u % 10)], by rw [e]; rfl, h1, h2⟩
theorem parse_itoa {n : Int} (hn : -9223372036854775808 ≤ n ∧ n ≤ 9223372036854775807) : parseV (Lib.itoa n) = n := by
  have key : Lib.parseIntB 64 (Lib.itoa n) = .ok n := by
    unfold Lib.itoa
    by_cases h : n < 0
    · rw [if_pos h]
      unfold Lib.parseIntB
      simp only
      obtain ⟨c, t, e, _, _⟩ := dd_head n.natAbs
      have hu : Lib.parseUintB 64 (Lib.decDigits n.natAbs) = .ok n.natAbs := by
        unfold Lib.parseUintB
        rw [if_neg (by rw [e]; simp)]
        exact pu_digits _ (by omega)
      rw [if_pos (by right; rfl), hu]
      simp only
      have h45 : (45 : UInt8).toNat = 45 := rfl
      rw [if_neg (fun k => k.1 h45), if_neg (fun k => by have := k.2; omega), if_pos h45]
      congr 1; omega
    · rw [if_neg h]
      obtain ⟨c, t, e, h1, h2⟩ := dd_head n.toNat
      have hu : Lib.parseUintB 64 (Lib.decDigits n.toNat) = .ok n.toNat := by
        unfold Lib.parseUintB
        rw [if_neg (by rw [e]; simp)]
        exact pu_digits _ (by omega)
      rw [e] at hu ⊢
      unfold Lib.parseIntB
      simp only
      rw [if_neg (by omega), hu]
      simp only
      rw [if_neg (fun k => by have := k.2; omega), if_neg (fun k => by have := k.1; omega), if_neg (by omega)]
      congr 1; omega
  unfold parseV
  rw [key]
end Go.Proofs.YtioonbfinnigpaaGreatDoor

