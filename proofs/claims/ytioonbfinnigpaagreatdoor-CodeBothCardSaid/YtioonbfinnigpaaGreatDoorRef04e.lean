/- What is got of bytes is what the document takes of them. -/
import Derived.Test.YtioonbfinnigpaaGreatDoorRef04d
import Derived.Test.YtioonbfinnigpaaGreatDoorCode11
namespace Go.Proofs.YtioonbfinnigpaaGreatDoor
open Go Go.RowKit
set_option linter.unusedVariables false
set_option linter.unusedSimpArgs false
set_option maxRecDepth 100000
def badT (t : Tk) : Prop := t.st.2 ≠ 0 ∨ t.ok = false ∨ allI t.out ≠ 0
theorem allI_app : ∀ (a b : List Ins), allI (a ++ b) = if allI a ≠ 0 then allI a else allI b
  | [], b => by simp [allI]
  | x :: a, b => by
    have ih := allI_app a b
    show (if checkI x ≠ 0 then checkI x else allI (a ++ b)) = if (if checkI x ≠ 0 then checkI x else allI a) ≠ 0 then (if checkI x ≠ 0 then checkI x else allI a) else allI b
    by_cases h : checkI x ≠ 0
    · rw [if_pos h, if_pos h, if_pos h]
    · rw [if_neg h, if_neg h, ih]
theorem nxt_stuck {st : Nat × Int} (h : st.2 ≠ 0) (e : Int) (k : Nat) : nxt st e k = st := if_pos h
theorem takeO_stuck {l : List UInt8} {o : ByteArray × Bool × Bool} {t : Tk} (h : (ns l t.st).2 ≠ 0) : (takeO l o t).st.2 ≠ 0 := by
  unfold takeO
  have h1 : ns l (ns l t.st) = ns l t.st := nxt_stuck h _ _
  have h2 : ts l (ns l t.st) = ns l t.st := nxt_stuck h _ _
  show (if o.2.2 then ts l (if o.2.1 then ns l (ns l t.st) else ns l t.st) else (if o.2.1 then ns l (ns l t.st) else ns l t.st)).2 ≠ 0
  rw [h1]
  split <;> split <;> first | exact h | (rw [h2]; exact h)
theorem bad_step {l : List UInt8} {t : Tk} (h : badT t) : badT (take1 l t) := by
  unfold take1
  rcases h with h | h | h
  · have h1 : ns l t.st = t.st := nxt_stuck h _ _
    split
    · left; show (ns l t.st).2 ≠ 0; rw [h1]; exact h
    · exact .inl (takeO_stuck (by rw [h1]; exact h))
  · split
    · exact .inr (.inl rfl)
    · exact .inr (.inl h)
  · split
    · exact .inr (.inl rfl)
    · refine .inr (.inr ?_)
      show allI (t.out ++ [_]) ≠ 0
      rw [allI_app, if_pos h]; exact h
theorem takeN_head (l : List UInt8) (t : Tk) : ∀ n, takeN l (n + 1) t = takeN l n (take1 l t)
  | 0 => rfl
  | n + 1 => by show take1 l (takeN l (n + 1) t) = _; rw [takeN_head l t n]; rfl
theorem bad_steps {l : List UInt8} {t : Tk} (h : badT t) : ∀ n, badT (takeN l n t)
  | 0 => h
  | n + 1 => bad_step (bad_steps h n)
/-- All went well so far. -/
structure Good (l : List UInt8) (t : Tk) : Prop where
  e : t.st.2 = 0
  ok : t.ok = true
  le : t.st.1 ≤ l.length
  all : allI t.out = 0
theorem ns_ok0 {l : List UInt8} {st : Nat × Int} (h : st.2 = 0) (hn : (numL 0 (l.drop st.1)).1 = 0) : ns l st = (st.1 + (numL 0 (l.drop st.1)).2.2, 0) ∧ nm l st = (numL 0 (l.drop st.1)).2.1 := by
  obtain ⟨a, e⟩ := st
  simp only at h hn
  subst h
  unfold ns nm
  simp only
  rw [nxt_ok hn, got_ok hn, hn]
  exact ⟨rfl, rfl⟩
theorem ns_bad0 {l : List UInt8} {st : Nat × Int} (h : st.2 = 0) (hn : (numL 0 (l.drop st.1)).1 ≠ 0) : (ns l st).2 ≠ 0 := by
  obtain ⟨a, e⟩ := st
  simp only at h hn
  subst h
  unfold ns
  simp only
  rw [nxt_err hn]
  exact hn
theorem ts_ok0 {l : List UInt8} {st : Nat × Int} (h : st.2 = 0) (hn : (textR (l.drop st.1)).1 = 0) : ts l st = (st.1 + (textR (l.drop st.1)).2.2, 0) ∧ tx l st = (textR (l.drop st.1)).2.1 := by
  obtain ⟨a, e⟩ := st
  simp only at h hn
  subst h
  unfold ts tx
  simp only
  rw [nxt_ok hn, got_ok hn, hn]
  exact ⟨rfl, rfl⟩
theorem ts_bad0 {l : List UInt8} {st : Nat × Int} (h : st.2 = 0) (hn : (textR (l.drop st.1)).1 ≠ 0) : (ts l st).2 ≠ 0 := by
  obtain ⟨a, e⟩ := st
  simp only at h hn
  subst h
  unfold ts
  simp only
  rw [nxt_err hn]
  exact hn
theorem textR_in {m : List UInt8} (h : (textR m).1 = 0) : (textR m).2.2 ≤ m.length := by
  have hn : (numL 0 m).1 = 0 := by
    apply Classical.byContradiction
    intro hn
    rw [textR_err hn] at h
    exact hn h
  have hi := numL_in m 0 hn
  unfold textR at h ⊢
  rw [if_neg (by rw [hn]; decide)] at h ⊢
  split at h
  · exact absurd h (by decide)
  · rename_i h1
    rw [if_neg h1]
    split at h
    · exact absurd h (by decide)
    · rename_i h2
      rw [if_neg h2]
      split at h
      · rename_i h3
        rw [if_pos h3]
        show _ + _ ≤ _
        omega
      · exact absurd h (by decide)
theorem rd4 (m : List UInt8) : rdF 4 0 m = ((textR m).1, { Fld.none 4 0 with s := sb (textR m).2.1 }, (textR m).2.2) := rd_t (by decide) (by decide) (by decide) (by decide)
theorem rd1 (m : List UInt8) : rdF 1 0 m = ((numL 0 m).1, { Fld.none 1 0 with i := zagI ((numL 0 m).2.1 : Nat) }, (numL 0 m).2.2) := rk_1 rfl
theorem allI_one (x : Ins) : allI [x] = checkI x := by
  show (if checkI x ≠ 0 then checkI x else 0) = _
  split
  · rfl
  · rename_i h; exact (Classical.not_not.1 h).symm
theorem take1_out {l : List UInt8} {t t' : Tk} {x : Ins} {a : Nat} (hg : Good l t) (ht : t' = ⟨(a, 0), t.ok, t.out ++ [x]⟩) (ha : a ≤ l.length) :
    (∀ y m, rChk (some (x, l.drop a)) = some (y, m) → Good l t' ∧ t'.out = t.out ++ [y] ∧ l.drop t'.st.1 = m) ∧ (rChk (some (x, l.drop a)) = none → badT t') := by
  subst ht
  unfold rChk
  simp only
  constructor
  · intro y m h
    split at h
    · cases h
    · rename_i hc
      injection h with h
      injection h with h1 h2
      subst h1 h2
      refine ⟨⟨rfl, hg.ok, ha, ?_⟩, rfl, rfl⟩
      show allI (t.out ++ [x]) = 0
      rw [allI_app, if_neg (by rw [hg.all]; decide), allI_one]
      exact Classical.not_not.1 hc
  · intro h
    split at h
    · rename_i hc
      refine .inr (.inr ?_)
      show allI (t.out ++ [x]) ≠ 0
      rw [allI_app, if_neg (by rw [hg.all]; decide), allI_one]
      exact hc
    · cases h
theorem item_step {l : List UInt8} {t : Tk} (hg : Good l t) :
    (∀ x m, rItem (l.drop t.st.1) = some (x, m) → Good l (take1 l t) ∧ (take1 l t).out = t.out ++ [x] ∧ l.drop (take1 l t).st.1 = m) ∧ (rItem (l.drop t.st.1) = none → badT (take1 l t)) := by
  have hge := hg.e
  have hgl := hg.le
  by_cases hn : (numL 0 (l.drop t.st.1)).1 = 0
  · obtain ⟨h1, h2⟩ := ns_ok0 hge hn
    have hin := numL_in _ 0 hn
    rw [List.length_drop] at hin
    by_cases h42 : 42 ≤ (numL 0 (l.drop t.st.1)).2.1
    · rw [rItem_bad (.inr h42)]
      refine ⟨fun x m h => (by cases h), fun _ => ?_⟩
      have e : take1 l t = { t with st := ns l t.st, ok := false } := if_pos (by rw [h2]; exact h42)
      rw [e]
      exact .inr (.inl rfl)
    · rw [rItem_on (fun h => by rcases h with h | h; exact h hn; exact h42 h)]
      have e : take1 l t = takeO l (opT.getD (numL 0 (l.drop t.st.1)).2.1 default) t := by rw [← h2]; exact if_neg (by rw [h2]; exact h42)
      rw [e]
      have hk : (numL 0 (l.drop t.st.1)).2.1 < 42 := by omega
      have hone := List.all_eq_true.1 tk_oneB _ (List.mem_range.2 hk)
      generalize opT.getD (numL 0 (l.drop t.st.1)).2.1 default = o at hone ⊢
      obtain ⟨on, oa, ob⟩ := o
      obtain ⟨b, hb⟩ : ∃ b, b = t.st.1 + (numL 0 (l.drop t.st.1)).2.2 := ⟨_, rfl⟩
      rw [← hb] at h1
      have hbl : b ≤ l.length := by omega
      rw [List.drop_drop, ← hb]
      unfold takeO rRest
      rw [h1, rd1, rd4]
      simp only at hone ⊢
      cases oa with
      | true =>
        cases ob with
        | true => exact absurd hone (by decide)
        | false =>
          rw [if_pos (show rtI (true, false, true) = 1 from rfl)]
          by_cases hn2 : (numL 0 (l.drop b)).1 = 0
          · rw [if_neg (by simpa using hn2), List.drop_drop]
            obtain ⟨k1, k2⟩ := ns_ok0 (l := l) (st := (b, 0)) rfl hn2
            have hin2 := numL_in _ 0 hn2
            rw [List.length_drop] at hin2
            refine take1_out hg (a := b + (numL 0 (l.drop b)).2.2) ?_ (by omega)
            simp only [if_true, Bool.false_eq_true, if_false]
            rw [k1, k2]; rfl
          · rw [if_pos hn2]
            refine ⟨fun x m h => (by cases h), fun _ => .inl ?_⟩
            exact ns_bad0 (l := l) (st := (b, 0)) rfl hn2
      | false =>
        cases ob with
        | true =>
          rw [if_neg (show ¬ rtI (false, true, true) = 1 by decide), if_pos (show rtI (false, true, true) = 2 from rfl)]
          by_cases hn2 : (textR (l.drop b)).1 = 0
          · rw [if_neg (by simpa using hn2), List.drop_drop]
            obtain ⟨k1, k2⟩ := ts_ok0 (l := l) (st := (b, 0)) rfl hn2
            have hin2 := textR_in hn2
            rw [List.length_drop] at hin2
            refine take1_out hg (a := b + (textR (l.drop b)).2.2) ?_ (by omega)
            simp only [if_true, Bool.false_eq_true, if_false]
            rw [k1, k2]
          · rw [if_pos hn2]
            refine ⟨fun x m h => (by cases h), fun _ => .inl ?_⟩
            exact ts_bad0 (l := l) (st := (b, 0)) rfl hn2
        | false =>
          rw [if_neg (show ¬ rtI (false, false, true) = 1 by decide), if_neg (show ¬ rtI (false, false, true) = 2 by decide)]
          refine take1_out hg (a := b) ?_ hbl
          simp only [Bool.false_eq_true, if_false]
          rfl
  · rw [rItem_bad (.inl hn)]
    refine ⟨fun x m h => (by cases h), fun _ => .inl ?_⟩
    unfold take1
    split
    · exact ns_bad0 hge hn
    · exact takeO_stuck (ns_bad0 hge hn)
theorem items_sync {l : List UInt8} : ∀ (n : Nat) (t : Tk), Good l t →
    (∀ z m, rItems n (l.drop t.st.1) t.out = some (z, m) → Good l (takeN l n t) ∧ (takeN l n t).out = z ∧ l.drop (takeN l n t).st.1 = m) ∧ (rItems n (l.drop t.st.1) t.out = none → badT (takeN l n t))
  | 0, t, hg => ⟨fun z m h => by injection h with h; injection h with h1 h2; exact ⟨hg, h1, h2⟩, fun h => by cases h⟩
  | n + 1, t, hg => by
    obtain ⟨i1, i2⟩ := item_step hg
    rw [takeN_head]
    unfold rItems
    cases hi : rItem (l.drop t.st.1) with
    | none => exact ⟨fun z m h => (by cases h), fun _ => bad_steps (i2 hi) n⟩
    | some p =>
      obtain ⟨x, m'⟩ := p
      obtain ⟨k1, k2, k3⟩ := i1 x m' hi
      have ih := items_sync n (take1 l t) k1
      rw [k2, k3] at ih
      exact ih
theorem take_ref (l : List UInt8) :
    (∀ z m, rTake l = some (z, m) → Good l (takeA l (0, 0)) ∧ (takeA l (0, 0)).out = z ∧ l.drop (takeA l (0, 0)).st.1 = m) ∧ (rTake l = none → badT (takeA l (0, 0))) := by
  unfold rTake takeA
  by_cases hc : (countR 200 l).1 = 0
  · rw [if_neg (by simpa using hc)]
    have h1 : cs l (0, 0) = ((countR 200 l).2.2, 0) := by
      unfold cs; simp only [List.drop_zero]; rw [nxt_ok hc, hc, Nat.zero_add]
    have h2 : cn l (0, 0) = (countR 200 l).2.1 := by
      unfold cn; simp only [List.drop_zero]; rw [got_ok hc]
    have hle : (countR 200 l).2.2 ≤ l.length := by
      unfold countR at hc ⊢
      split at hc
      · exact absurd hc (by decide)
      · rename_i hn
        rw [if_neg hn]
        exact numL_in l 0 hc
    rw [h1, h2]
    exact items_sync (l := l) (countR 200 l).2.1 ⟨((countR 200 l).2.2, 0), true, []⟩ ⟨rfl, rfl, hle, rfl⟩
  · rw [if_pos hc]
    refine ⟨fun z m h => (by cases h), fun _ => bad_steps (.inl ?_) _⟩
    show (cs l (0, 0)).2 ≠ 0
    unfold cs; simp only [List.drop_zero]; rw [nxt_err hc]; exact hc
theorem zero_canon {l : List UInt8} (h : (numL 0 l).1 = 0) (h0 : (numL 0 l).2.1 = 0) : l = 0 :: l.drop (numL 0 l).2.2 := by
  have := numL_canon l 0 h
  rw [h0, varL_low (by decide)] at this
  exact this
theorem take_ok {l : List UInt8} {z : List Ins} (h : rTake l = some (z, [])) : getIs l ∧ takeL l (0, 0) = z := by
  obtain ⟨hg, ho, hd⟩ := (take_ref l).1 z [] h
  have hlen : l.length ≤ (takeA l (0, 0)).st.1 := by
    have := congrArg List.length hd
    rw [List.length_drop] at this
    simp at this; omega
  have hle := hg.le
  have ht : takeL l (0, 0) = z := by
    unfold takeL
    rw [if_neg (by rintro (k | k | k); exact k hg.e; (rw [hg.ok] at k; cases k); exact k hg.all), ho]
  refine ⟨⟨?_, ?_⟩, ht⟩
  · unfold endE
    rw [if_neg (by rintro ⟨_, k⟩; omega)]
    exact hg.e
  · rintro ⟨k1, k2⟩
    rw [ht] at k1
    subst k1
    apply k2
    unfold rTake at h
    split at h
    · cases h
    · rename_i hc
      have hc : (countR 200 l).1 = 0 := Classical.not_not.1 hc
      have key : ∀ (n : Nat) (m : List UInt8) (out : List Ins) (z : List Ins) (r : List UInt8), rItems n m out = some (z, r) → z.length = out.length + n ∧ (n = 0 → r = m) := by
        intro n
        induction n with
        | zero => intro m out z r h; injection h with h; injection h with h1 h2; subst h1 h2; exact ⟨rfl, fun _ => rfl⟩
        | succ n ih =>
          intro m out z r h
          unfold rItems at h
          cases hi : rItem m with
          | none => rw [hi] at h; cases h
          | some p =>
            rw [hi] at h
            have := (ih _ _ _ _ h).1
            rw [List.length_append] at this
            exact ⟨by simp at this; omega, fun h => absurd h (by omega)⟩
      have hk := key _ _ _ _ _ h
      have hn0 : (countR 200 l).2.1 = 0 := by have := hk.1; simp at this; omega
      have hr := hk.2 hn0
      have hcn : countR 200 l = numL 0 l := by
        unfold countR at hc ⊢
        split at hc
        · exact absurd hc (by decide)
        · rename_i hn
          rw [if_neg hn]
      rw [hcn] at hc hn0 hr
      rw [zero_canon hc hn0, ← hr]
theorem take_no {l : List UInt8} (h : ∀ z, rTake l ≠ some (z, [])) : ¬ getIs l := by
  rintro ⟨h1, h2⟩
  cases hr : rTake l with
  | some p =>
    obtain ⟨z, m⟩ := p
    obtain ⟨hg, ho, hd⟩ := (take_ref l).1 z m hr
    have hm : m ≠ [] := fun e => h z (by rw [hr, e])
    unfold endE at h1
    rw [if_pos ⟨hg.e, fun e => hm (by rw [← hd, e, List.drop_length])⟩] at h1
    exact absurd h1 (by decide)
  | none =>
    have hb := (take_ref l).2 hr
    have ht : takeL l (0, 0) = [] := if_pos hb
    apply h2
    refine ⟨ht, fun e => ?_⟩
    subst e
    have e1 : (rTake [0]).isSome = true := by decide +kernel
    rw [hr] at e1; cases e1
end Go.Proofs.YtioonbfinnigpaaGreatDoor

