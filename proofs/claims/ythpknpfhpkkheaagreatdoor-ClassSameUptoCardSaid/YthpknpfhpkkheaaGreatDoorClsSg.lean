/- A part of the proof. -/
import Derived.Test.YthpknpfhpkkheaaGreatDoorMGj
namespace Go.Proofs.YthpknpfhpkkheaaGreatDoor
open Go Go.RowKit
set_option linter.unusedVariables false
set_option linter.unusedSimpArgs false
set_option maxRecDepth 100000
theorem base_all {Q : UInt8 → Prop} (q1 : Q 91) (q2 : Q 93) : ∀ (k : Nat) (l : List UInt8), l.length = k → (∀ c ∈ (baseF l).1, Q c) → ∀ c ∈ l, Q c := by
  intro k
  induction k using Nat.strongRecOn with
  | ind k ih =>
    intro l hl hb
    cases h : endsA l with
    | false => rw [baseF_no h] at hb; exact hb
    | true =>
      have h2 := endsA_le h
      rw [baseF_yes h] at hb
      have h3 := ih (l.length - 2) (by omega) (l.take (l.length - 2)) (by rw [List.length_take]; omega) hb
      intro c hc
      rw [ends_split h] at hc
      rcases List.mem_append.1 hc with hc | hc
      · exact h3 c hc
      ·
       simp at hc
       rcases hc with rfl | rfl
       · exact q1
       · exact q2
def sg (c : UInt8) : Prop := c.toNat ≠ 44 ∧ c.toNat ≠ 41
theorem right_sg {s : ByteArray} (h : rightK s) : ∀ c ∈ bs s, sg c := by
  refine base_all (Q := sg) ⟨by decide, by decide⟩ ⟨by decide, by decide⟩ _ (bs s) rfl ?_
  have e : (baseF (bs s)).1 = bs (baseS s) := by unfold baseS; rw [bs_sb]
  rw [e]
  rcases h.2 with h | h
  ·
   have key : ∀ l : List UInt8, (l.all fun c => decide (c.toNat ≠ 44 ∧ c.toNat ≠ 41)) = true → ∀ c ∈ l, sg c := fun l h c hc => by
     have h2 : decide (c.toNat ≠ 44 ∧ c.toNat ≠ 41) = true := List.all_eq_true.1 h c hc
     show c.toNat ≠ 44 ∧ c.toNat ≠ 41
     exact of_decide_eq_true h2
   rcases h with h | h | h <;> rw [h] <;> exact key _ (by decide)
  ·
   obtain ⟨_, h2, _, h4⟩ := h.1
   intro b hb
   obtain ⟨i, hi, rfl⟩ := List.mem_iff_getElem.1 hb
   have hi2 : i < (baseS s).size := by rw [bs_length] at hi; exact hi
   have h5 := h4 i hi2
   have e : bat (baseS s) i = (bs (baseS s))[i]'hi := by show (bs (baseS s)).getD i 0 = _; rw [List.getD_eq_getElem?_getD, List.getElem?_eq_getElem hi, Option.getD_some]
   rw [e] at h5
   unfold nameC greatC smallC digitC at h5
   unfold sg
   omega
theorem right_ne {s : ByteArray} (h : rightK s) : bs s ≠ [] := by
  have h1 := base_len _ (bs s) rfl
  have e : (baseF (bs s)).1 = bs (baseS s) := by unfold baseS; rw [bs_sb]
  have h3 : 0 < (baseF (bs s)).1.length := by
    rw [e, bs_length]
    rcases h.2 with h | h
    · rcases h with h | h | h <;> rw [h] <;> decide
    · exact h.1.1
  intro k
  rw [k] at h1
  have h4 := h1
  rw [k] at h3
  simp at h4
  omega
theorem split_41 {c : UInt8} : ∀ (p q r s : List UInt8), (∀ x ∈ p, x ≠ c) → (∀ x ∈ q, x ≠ c) → p ++ c :: r = q ++ c :: s → p = q ∧ r = s
  | [], [], r, s, _, _, h => ⟨rfl, by simpa using h⟩
  | [], y :: q, r, s, _, hq, h => by
    simp at h
    exact absurd h.1.symm (hq y List.mem_cons_self)
  | x :: p, [], r, s, hp, _, h => by
    simp at h
    exact absurd h.1 (hp x List.mem_cons_self)
  | x :: p, y :: q, r, s, hp, hq, h => by
    simp only [List.cons_append, List.cons.injEq] at h
    obtain ⟨h1, h2⟩ := split_41 p q r s (fun z hz => hp z (List.mem_cons_of_mem _ hz)) (fun z hz => hq z (List.mem_cons_of_mem _ hz)) h.2
    exact ⟨by rw [h.1, h1], h2⟩
theorem split_end {c : UInt8} : ∀ (p q t u : List UInt8), (∀ x ∈ p, x ≠ c) → (∀ x ∈ q, x ≠ c) → (t = [] ∨ ∃ t', t = c :: t') → (u = [] ∨ ∃ u', u = c :: u') → p ++ t = q ++ u → p = q ∧ t = u
  | [], [], t, u, _, _, _, _, h => ⟨rfl, by simpa using h⟩
  | [], y :: q, t, u, _, hq, ht, _, h => by
    rcases ht with rfl | ⟨t', rfl⟩
    · simp at h
    ·
     simp at h
     exact absurd h.1.symm (hq y List.mem_cons_self)
  | x :: p, [], t, u, hp, _, _, hu, h => by
    rcases hu with rfl | ⟨u', rfl⟩
    · simp at h
    ·
     simp at h
     exact absurd h.1 (hp x List.mem_cons_self)
  | x :: p, y :: q, t, u, hp, hq, ht, hu, h => by
    simp only [List.cons_append, List.cons.injEq] at h
    obtain ⟨h1, h2⟩ := split_end p q t u (fun z hz => hp z (List.mem_cons_of_mem _ hz)) (fun z hz => hq z (List.mem_cons_of_mem _ hz)) ht hu h.2
    exact ⟨by rw [h.1, h1], h2⟩
theorem tail_cons (z : List UInt8) (r : List (List UInt8)) : Lib.joinTail [44] (z :: r) = 44 :: Lib.join (z :: r) [44] := by
  rw [Lib.join_cons]
  simp [Lib.joinTail]
theorem tail_alt (r : List (List UInt8)) : Lib.joinTail [44] r = [] ∨ ∃ t, Lib.joinTail [44] r = 44 :: t := by
  cases r with
  | nil => exact .inl rfl
  | cons z r => exact .inr ⟨_, tail_cons z r⟩
theorem join_inj : ∀ (l m : List (List UInt8)), (∀ x ∈ l, x ≠ [] ∧ ∀ c ∈ x, c ≠ 44) → (∀ x ∈ m, x ≠ [] ∧ ∀ c ∈ x, c ≠ 44) → Lib.join l [44] = Lib.join m [44] → l = m
  | [], [], _, _, _ => rfl
  | [], y :: m, _, hm, h => by
    rw [Lib.join_cons, Lib.join_nil] at h
    have := (hm y List.mem_cons_self).1
    simp at h
    exact absurd h.1 this
  | x :: l, [], hl, _, h => by
    rw [Lib.join_cons, Lib.join_nil] at h
    have := (hl x List.mem_cons_self).1
    simp at h
    exact absurd h.1 this
  | x :: l, y :: m, hl, hm, h => by
    rw [Lib.join_cons, Lib.join_cons] at h
    obtain ⟨h1, h2⟩ := split_end _ _ _ _ (hl x List.mem_cons_self).2 (hm y List.mem_cons_self).2 (tail_alt l) (tail_alt m) h
    have h3 : l = m := by
      cases l with
      | nil =>
        cases m with
        | nil => rfl
        | cons z m => rw [tail_cons] at h2; cases h2
      | cons w l =>
        cases m with
        | nil => rw [tail_cons] at h2; cases h2
        | cons z m =>
          rw [tail_cons, tail_cons] at h2
          injection h2 with _ h2
          exact join_inj _ _ (fun x hx => hl x (List.mem_cons_of_mem _ hx)) (fun x hx => hm x (List.mem_cons_of_mem _ hx)) h2
    rw [h1, h3]
theorem mem_tail {c : UInt8} (r : List (List UInt8)) (h : c ∈ Lib.joinTail [44] r) : c = 44 ∨ ∃ x ∈ r, c ∈ x := by
  unfold Lib.joinTail at h
  rw [List.mem_flatten] at h
  obtain ⟨y, hy, hc⟩ := h
  obtain ⟨x, hx, rfl⟩ := List.mem_map.1 hy
  rcases List.mem_append.1 hc with hc | hc
  · exact .inl (by simpa using hc)
  · exact .inr ⟨x, hx, hc⟩
theorem mem_join {c : UInt8} (l : List (List UInt8)) (h : c ∈ Lib.join l [44]) : c = 44 ∨ ∃ x ∈ l, c ∈ x := by
  cases l with
  | nil => rw [Lib.join_nil] at h; simp at h
  | cons x l =>
    rw [Lib.join_cons] at h
    rcases List.mem_append.1 h with h | h
    · exact .inr ⟨x, List.mem_cons_self, h⟩
    ·
     rcases mem_tail l h with h | ⟨y, hy, h⟩
     · exact .inl h
     · exact .inr ⟨y, List.mem_cons_of_mem _ hy, h⟩
theorem sign_bs (m : Mth) : bs (signS m) = 40 :: (Lib.join (m.params.map bs) [44] ++ 41 :: bs m.result) := by
  have e : bs (joinS m.params { data := #[44] }) = Lib.join (m.params.map bs) [44] := by
    unfold joinS bs
    simp
  unfold signS
  rw [bs_append, bs_append, bs_append, e]
  show [40] ++ _ ++ [41] ++ _ = _
  simp
theorem sign_iff {x y : Mth} (hx : ∀ p ∈ x.params, rightK p) (hy : ∀ p ∈ y.params, rightK p) : signS x = signS y ↔ x.result = y.result ∧ x.params = y.params := by
  have no41 : ∀ {z : Mth}, (∀ p ∈ z.params, rightK p) → ∀ c ∈ Lib.join (z.params.map bs) [44], c ≠ 41 := by
    intro z hz c hc
    rcases mem_join _ hc with rfl | ⟨u, hu, hcu⟩
    · decide
    ·
     obtain ⟨p, hp, rfl⟩ := List.mem_map.1 hu
     have := (right_sg (hz p hp) c hcu).2
     intro k; rw [k] at this; exact this rfl
  have no44 : ∀ {z : Mth}, (∀ p ∈ z.params, rightK p) → ∀ u ∈ z.params.map bs, u ≠ [] ∧ ∀ c ∈ u, c ≠ 44 := by
    intro z hz u hu
    obtain ⟨p, hp, rfl⟩ := List.mem_map.1 hu
    refine ⟨right_ne (hz p hp), fun c hc k => ?_⟩
    have := (right_sg (hz p hp) c hc).1
    rw [k] at this; exact this rfl
  constructor
  ·
   intro h
   have h2 := congrArg bs h
   rw [sign_bs, sign_bs] at h2
   injection h2 with _ h2
   obtain ⟨h3, h4⟩ := split_41 _ _ _ _ (no41 hx) (no41 hy) h2
   have h5 := join_inj _ _ (no44 hx) (no44 hy) h3
   refine ⟨bs_inj.1 h4, ?_⟩
   have inj : ∀ (l m : List ByteArray), l.map bs = m.map bs → l = m := by
     intro l
     induction l with
     | nil => intro m h; cases m with
       | nil => rfl
       | cons y m => cases h
     | cons x l ih => intro m h; cases m with
       | nil => cases h
       | cons y m =>
         simp only [List.map_cons, List.cons.injEq] at h
         rw [bs_inj.1 h.1, ih m h.2]
   exact inj _ _ h5
  ·
   rintro ⟨h1, h2⟩
   unfold signS
   rw [h1, h2]
theorem join_le {B : Nat} (l : List (List UInt8)) (h : ∀ x ∈ l, x.length ≤ B) : (Lib.join l [44]).length ≤ l.length * (B + 1) := by
  have hl : ∀ r : List (List UInt8), (∀ x ∈ r, x.length ≤ B) → Lib.lens r ≤ r.length * B := by
    intro r hr
    induction r with
    | nil => simp [Lib.lens]
    | cons y r ih =>
      have h1 := hr y List.mem_cons_self
      have h2 := ih fun x hx => hr x (List.mem_cons_of_mem _ hx)
      unfold Lib.lens at h2 ⊢
      rw [List.map_cons, List.sum_cons, List.length_cons, Nat.succ_mul]
      omega
  cases l with
  | nil => rw [Lib.join_nil]; simp
  | cons x l =>
    rw [Lib.join_cons, List.length_append, Lib.joinTail_length]
    have h1 := h x List.mem_cons_self
    have h2 := hl l fun y hy => h y (List.mem_cons_of_mem _ hy)
    have e : (x :: l).length * (B + 1) = l.length * B + l.length + (B + 1) := by rw [List.length_cons, Nat.succ_mul, Nat.mul_add, Nat.mul_one]
    rw [e]
    show x.length + (1 * l.length + Lib.lens l) ≤ _
    omega
theorem joinS_le {B : Nat} (l : List ByteArray) (h : ∀ x ∈ l, x.size ≤ B) : (joinS l { data := #[44] }).size ≤ l.length * (B + 1) := by
  rw [joinS_size]
  have h2 := join_le (B := B) (l.map (·.data.toList)) (fun y hy => by
    obtain ⟨x, hx, rfl⟩ := List.mem_map.1 hy
    have := h x hx
    rw [Array.length_toList]; exact this)
  rw [List.length_map] at h2
  exact h2
end Go.Proofs.YthpknpfhpkkheaaGreatDoor
