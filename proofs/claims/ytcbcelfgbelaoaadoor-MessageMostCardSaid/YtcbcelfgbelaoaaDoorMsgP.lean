/- A message's bytes, plainly: what is got of them, and that only they are its. -/
import Derived.Test.YtcbcelfgbelaoaaDoorPackP
import Derived.Test.YtcbcelfgbelaoaaDoorMsgEq
namespace Go.Proofs.YtcbcelfgbelaoaaDoor
open Go Go.RowKit
set_option linter.unusedVariables false
set_option linter.unusedSimpArgs false
def midL (m : Msg) : List UInt8 := if m.kind = 0 then varL m.below.toNat ++ (varL m.object.toNat ++ textL m.method) else varL m.way.toNat
/-- A message's bytes, ahead of their sum. -/
def putM (m : Msg) : List UInt8 := varL m.kind.toNat ++ (varL m.life.toNat ++ (varL m.seq.toNat ++ (midL m ++ textL m.body)))
section
variable (l : List UInt8)
def q1 : Nat × Int := ns l (0, 0)
def q2 : Nat × Int := ns l (q1 l)
def q3 : Nat × Int := ns l (q2 l)
def k0 : Nat := min (nm l (0, 0)) 3
def q6 : Nat × Int := if k0 l = 0 then ts l (ns l (ns l (q3 l))) else ns l (q3 l)
def q7 : Nat × Int := ns l (q6 l)
def left7 : Nat := l.length - (q7 l).1
/-- What is got, if it may be. -/
def gotM : Msg := if k0 l = 0 then ⟨0, nm l (q1 l), nm l (q2 l), nm l (q3 l), nm l (ns l (q3 l)), sb (tx l (ns l (ns l (q3 l)))), 0, sb (l.drop (q7 l).1)⟩ else ⟨k0 l, nm l (q1 l), nm l (q2 l), 0, 0, { data := #[] }, (min (nm l (q3 l)) 3 : Nat), sb (l.drop (q7 l).1)⟩
def getOk : Prop := (q7 l).2 = 0 ∧ nm l (q6 l) = left7 l ∧ checkC (gotM l) = 0
end
theorem gotM_ok (l : List UInt8) : (gotM l).ok := by
  have h := nm_le l
  unfold gotM
  split
  · exact ⟨by simp only; have := h (q1 l); omega, by simp only; have := h (q2 l); omega, by simp only; have := h (q3 l); omega, by simp only; have := h (ns l (q3 l)); omega⟩
  · exact ⟨by simp only; have := h (q1 l); omega, by simp only; have := h (q2 l); omega, by simp only; omega, by simp only; omega⟩
theorem check_right {m : Msg} (h : checkC m = 0) : m.body.size ≤ 8192 ∧ rightP m := by
  unfold checkC at h
  split at h
  · exact absurd h (by decide)
  · split at h
    · exact ⟨by omega, by assumption⟩
    · exact absurd h (by decide)
theorem right_check {m : Msg} (h : m.body.size ≤ 8192) (hr : rightP m) : checkC m = 0 := by
  unfold checkC
  rw [if_neg (by omega), if_pos hr]
/-- What is got is written so. -/
theorem get_canon {l : List UInt8} (h : getOk l) : putM (gotM l) = l := by
  obtain ⟨h7, hn, hc⟩ := h
  obtain ⟨_, hr⟩ := check_right hc
  have e7 := ns_ok (l := l) (st := q6 l) h7
  obtain ⟨h6, e7⟩ := e7
  have hlen : (l.drop (q7 l).1).length = nm l (q6 l) := by rw [hn, List.length_drop]; rfl
  have eb : textL (sb (l.drop (q7 l).1)) = l.drop (q6 l).1 := by
    rw [textL, sb_size, bs_sb, hlen, e7]; rfl
  by_cases hk : k0 l = 0
  · have e6 : q6 l = ts l (ns l (ns l (q3 l))) := if_pos hk
    rw [e6] at h6
    obtain ⟨h5, e5⟩ := ts_ok h6
    obtain ⟨h4, e4⟩ := ns_ok h5
    obtain ⟨h3, e3⟩ := ns_ok h4
    obtain ⟨h2, e2⟩ := ns_ok (st := q2 l) h3
    obtain ⟨h1, e1⟩ := ns_ok (st := q1 l) h2
    obtain ⟨_, e0⟩ := ns_ok (st := (0, 0)) h1
    have hz : nm l (0, 0) = 0 := by unfold k0 at hk; omega
    have eg : gotM l = ⟨0, nm l (q1 l), nm l (q2 l), nm l (q3 l), nm l (ns l (q3 l)), sb (tx l (ns l (ns l (q3 l)))), 0, sb (l.drop (q7 l).1)⟩ := if_pos hk
    rw [eg]
    unfold putM midL
    simp only [if_true, Int.toNat_natCast, Int.toNat_zero]
    rw [eb, e6, List.append_assoc, List.append_assoc, ← e5, ← e4, ← e3]
    have e0' : l = varL 0 ++ l.drop (q1 l).1 := by rw [hz] at e0; exact e0
    exact (e0'.trans (by rw [e1, show (ns l (q1 l)).1 = (q2 l).1 from rfl, e2]; rfl)).symm
  · have e6 : q6 l = ns l (q3 l) := if_neg hk
    rw [e6] at h6
    obtain ⟨h3, e3⟩ := ns_ok h6
    obtain ⟨h2, e2⟩ := ns_ok (st := q2 l) h3
    obtain ⟨h1, e1⟩ := ns_ok (st := q1 l) h2
    obtain ⟨_, e0⟩ := ns_ok (st := (0, 0)) h1
    have eg : gotM l = ⟨k0 l, nm l (q1 l), nm l (q2 l), 0, 0, { data := #[] }, (min (nm l (q3 l)) 3 : Nat), sb (l.drop (q7 l).1)⟩ := if_neg hk
    rw [eg] at hr ⊢
    obtain ⟨_, _, ⟨r, _⟩ | ⟨r, _, _, _, _, r2⟩⟩ := hr
    · exact absurd (by have r3 : ((k0 l : Nat) : Int) = 0 := r; omega) hk
    have r' : k0 l = 1 := by have r3 : ((k0 l : Nat) : Int) = 1 := r; omega
    have r2' : ((min (nm l (q3 l)) 3 : Nat) : Int) ≤ 2 := r2
    have hz : nm l (0, 0) = 1 := by unfold k0 at r'; omega
    have hw : min (nm l (q3 l)) 3 = nm l (q3 l) := by omega
    unfold putM midL
    simp only [Int.toNat_natCast]
    rw [if_neg (by omega), eb, e6, hw, ← e3, r']
    have e0' : l = varL 1 ++ l.drop (q1 l).1 := by rw [hz] at e0; exact e0
    exact (e0'.trans (by rw [e1, show (ns l (q1 l)).1 = (q2 l).1 from rfl, e2]; rfl)).symm
theorem name_valid {s : ByteArray} (h : nameP s) : s.size ≤ 4096 ∧ Lib.validD (bs s) = true := by
  obtain ⟨_, h2, _, h4⟩ := h
  refine ⟨by omega, ?_⟩
  rw [Lib.validD_ascii s.size (bs s) (fun b hb => ?_), List.drop_of_length_le (by rw [bs_length]; omega)]
  · rfl
  · rw [List.take_of_length_le (by rw [bs_length]; omega)] at hb
    obtain ⟨i, hi, rfl⟩ := List.mem_iff_getElem.1 hb
    have hi2 : i < s.size := by rw [bs_length] at hi; exact hi
    have h5 := h4 i hi2
    have e : bat s i = (bs s)[i]'hi := by show (bs s).getD i 0 = _; rw [List.getD_eq_getElem?_getD, List.getElem?_eq_getElem hi, Option.getD_some]
    rw [e] at h5
    rcases h5 with h | h | h
    · have := h.2; omega
    · have := h.2; omega
    · have := h.2; omega
/-- What is written is got. -/
theorem get_put {m : Msg} (hok : m.ok) (hc : checkC m = 0) : getOk (putM m) ∧ gotM (putM m) = m := by
  obtain ⟨hb, hr⟩ := check_right hc
  obtain ⟨⟨a1, a2⟩, ⟨b1, b2⟩, ⟨c1, c2⟩, ⟨d1, d2⟩⟩ := hok
  obtain ⟨l, hl⟩ : ∃ l, l = putM m := ⟨_, rfl⟩
  rw [← hl]
  have hl0 : l.drop 0 = varL m.kind.toNat ++ (varL m.life.toNat ++ (varL m.seq.toNat ++ (midL m ++ textL m.body))) := hl
  have hkr : m.kind = 0 ∨ m.kind = 1 := by rcases hr.2.2 with h | h; exact .inl h.1; exact .inr h.1
  obtain ⟨n1, s1⟩ := ns_of (by omega) hl0
  have hl1 := drop_more hl0
  obtain ⟨n2, s2⟩ := ns_of (by omega) hl1
  have hl2 := drop_more hl1
  obtain ⟨n3, s3⟩ := ns_of (by omega) hl2
  have hl3 := drop_more hl2
  have g1 : q1 l = ns l (0, 0) := rfl
  rw [s1] at g1
  have g2 : q2 l = ns l (q1 l) := rfl
  rw [g1, s2] at g2
  have g3 : q3 l = ns l (q2 l) := rfl
  rw [g2, s3] at g3
  have gk : k0 l = m.kind.toNat := by unfold k0; rw [n1]; omega
  have fin : ∀ a, q6 l = (a, 0) → l.drop a = textL m.body → (q7 l).2 = 0 ∧ nm l (q6 l) = left7 l ∧ sb (l.drop (q7 l).1) = m.body := by
    intro a h6 ha
    have ha' : l.drop a = varL m.body.size ++ bs m.body := ha
    obtain ⟨n7, s7⟩ := ns_of (by omega) ha'
    have hl7 := drop_more ha'
    have g7 : q7 l = ns l (q6 l) := rfl
    rw [h6, s7] at g7
    refine ⟨by rw [g7], ?_, by rw [g7]; show sb (l.drop (a + _)) = _; rw [hl7, sb_bs]⟩
    rw [h6, n7]
    have h8 := congrArg List.length hl7
    rw [bs_length, List.length_drop] at h8
    unfold left7
    rw [g7]
    exact h8.symm
  by_cases hk : m.kind = 0
  · have hk0 : k0 l = 0 := by rw [gk, hk]; rfl
    have hn : nameP m.method := by rcases hr.2.2 with h | h; exact h.2.2.2.1; (have := h.1; omega)
    have hw : m.way = 0 := by rcases hr.2.2 with h | h; exact h.2.2.2.2.2; (have := h.1; omega)
    obtain ⟨v1, v2⟩ := name_valid hn
    have em : midL m = varL m.below.toNat ++ (varL m.object.toNat ++ textL m.method) := if_pos hk
    rw [em, List.append_assoc, List.append_assoc] at hl3
    obtain ⟨n4, s4⟩ := ns_of (by omega) hl3
    have hl4 := drop_more hl3
    obtain ⟨n5, s5⟩ := ns_of (by omega) hl4
    have hl5 := drop_more hl4
    obtain ⟨n6, s6⟩ := ts_of v1 v2 hl5
    have hl6 := drop_more hl5
    have g6 : q6 l = ts l (ns l (ns l (q3 l))) := if_pos hk0
    rw [g3, s4, s5, s6] at g6
    obtain ⟨f1, f2, f3⟩ := fin _ g6 hl6
    have eg : gotM l = m := by
      unfold gotM
      rw [if_pos hk0, f3, g3, s4, s5, n4, n5, n6, g1, n2, g2, n3, sb_bs]
      obtain ⟨k, li, sq, be, ob, me, wa, bo⟩ := m
      simp only at *
      subst hk hw
      congr 1 <;> omega
    exact ⟨⟨f1, f2, by rw [eg]; exact hc⟩, eg⟩
  · have hk1 : m.kind = 1 := by omega
    have hk0 : ¬ k0 l = 0 := by rw [gk, hk1]; decide
    obtain ⟨r1, r2, r3, r4, r5⟩ : m.below = 0 ∧ m.object = 0 ∧ m.method = { data := #[] } ∧ 0 ≤ m.way ∧ m.way ≤ 2 := by rcases hr.2.2 with h | h; (have := h.1; omega); exact h.2
    have em : midL m = varL m.way.toNat := if_neg hk
    rw [em] at hl3
    obtain ⟨n4, s4⟩ := ns_of (by omega) hl3
    have hl4 := drop_more hl3
    have g6 : q6 l = ns l (q3 l) := if_neg hk0
    rw [g3, s4] at g6
    obtain ⟨f1, f2, f3⟩ := fin _ g6 hl4
    have eg : gotM l = m := by
      unfold gotM
      rw [if_neg hk0, f3, g3, n4, g1, n2, g2, n3, gk]
      obtain ⟨k, li, sq, be, ob, me, wa, bo⟩ := m
      simp only at *
      subst hk1 r1 r2 r3
      congr 1 <;> omega
    exact ⟨⟨f1, f2, by rw [eg]; exact hc⟩, eg⟩
/-- Two messages that may be, and are the same bytes, are one. -/
theorem putM_inj {m n : Msg} (hm : m.ok) (hn : n.ok) (cm : checkC m = 0) (cn : checkC n = 0) (h : putM m = putM n) : m = n := by
  have h1 := (get_put hm cm).2
  rw [h, (get_put hn cn).2] at h1
  exact h1.symm
end Go.Proofs.YtcbcelfgbelaoaaDoor

