/- Kinds and members by the document; a member's parts; walked. -/
import Derived.Test.YtioonbfinnigpaaGreatDoorKind2
import Derived.Lib.IndexBytes
import Derived.Lib.IndexLaws
namespace Go.Proofs.YtioonbfinnigpaaGreatDoor
open Go Go.RowKit
set_option linter.unusedVariables false
set_option linter.unusedSimpArgs false
set_option maxRecDepth 100000
theorem extract_bs (s : ByteArray) (a b : Nat) : s.extract a b = sb (((bs s).drop a).take (b - a)) := Lib.extract_eq s a b
theorem dot_at {s : ByteArray} {i : Nat} (h : i < s.size) (hi : (bat s i).toNat = 46) (hn : ∀ j, j < i → (bat s j).toNat ≠ 46) : Lib.cut (bs s) [46] = ((bs s).take i, (bs s).drop (i + 1), true) := by
  have hl : i < (bs s).length := by rw [bs_length]; exact h
  have hb : ∀ j, j < (bs s).length → (bs s)[j]? = some (bat s j) := fun j hj => by
    unfold bat
    rw [List.getD_eq_getElem?_getD, List.getElem?_eq_getElem hj]; rfl
  have h46 : ∀ x : UInt8, x.toNat = 46 ↔ x = 46 := fun x => ⟨fun h => UInt8.toNat_inj.1 h, fun h => by rw [h]; rfl⟩
  have hI : Lib.index (bs s) [46] = i := by
    rw [Lib.index_one]
    have hge := Lib.indexByte_ge (bs s) 46
    rcases Int.lt_or_le (Lib.indexByte (bs s) 46) 0 with hlt | hle
    · have hm : Lib.indexByte (bs s) 46 = -1 := by omega
      have := Lib.indexByte_none hm i
      rw [hb i hl, (h46 _).1 hi] at this
      exact absurd rfl this
    · obtain ⟨o, ho⟩ : ∃ o : Nat, Lib.indexByte (bs s) 46 = o := ⟨(Lib.indexByte (bs s) 46).toNat, by omega⟩
      obtain ⟨h1, h2⟩ := Lib.indexByte_some ho
      have ho1 : o < (bs s).length := (List.getElem?_eq_some_iff.1 h1).1
      rw [hb o ho1] at h1
      have h1' : (bat s o).toNat = 46 := (h46 _).2 (by injection h1)
      rcases Nat.lt_trichotomy o i with hh | hh | hh
      · exact absurd h1' (hn o hh)
      · rw [ho, hh]
      · have := h2 i hh
        rw [hb i hl, (h46 _).1 hi] at this
        exact absurd rfl this
  unfold Lib.cut
  rw [hI, if_pos (by omega)]; rfl
theorem dot_no {s : ByteArray} (hn : ∀ j, j < s.size → (bat s j).toNat ≠ 46) : Lib.cut (bs s) [46] = (bs s, [], false) := by
  have hI : ¬ (0 : Int) ≤ Lib.index (bs s) [46] := by
    rw [Lib.index_one]
    intro hle
    obtain ⟨o, ho⟩ : ∃ o : Nat, Lib.indexByte (bs s) 46 = o := ⟨(Lib.indexByte (bs s) 46).toNat, by omega⟩
    obtain ⟨h1, h2⟩ := Lib.indexByte_some ho
    have ho1 : o < (bs s).length := (List.getElem?_eq_some_iff.1 h1).1
    have hb : (bs s)[o]? = some (bat s o) := by
      unfold bat
      rw [List.getD_eq_getElem?_getD, List.getElem?_eq_getElem ho1]; rfl
    rw [hb] at h1
    have h1' : bat s o = 46 := by injection h1
    exact hn o (by rw [← bs_length]; exact ho1) (by rw [h1']; rfl)
  unfold Lib.cut
  rw [if_neg hI]
def memP (s : ByteArray) : Prop := nameP s ∧ smallC (bat s 0).toNat
instance (s : ByteArray) : Decidable (memP s) := inferInstanceAs (Decidable (_ ∧ _))
theorem memP_iff (s : ByteArray) : memP s ↔ (nameP s ∧ ¬ classP s) := by
  unfold memP classP
  constructor
  · rintro ⟨h, h2⟩
    refine ⟨h, fun h3 => ?_⟩
    have := h3.2
    unfold smallC greatC at *; omega
  · rintro ⟨h, h2⟩
    obtain ⟨h1, _, h3, h4⟩ := id h
    have h5 := h4 0 h1
    refine ⟨h, ?_⟩
    have h6 : ¬ greatC (bat s 0).toNat := fun hg => h2 ⟨h, hg⟩
    unfold nameC at h5
    rcases h5 with h5 | h5 | h5
    · exact absurd h5 h6
    · exact h5
    · exact absurd h5 h3
def partsO (s : ByteArray) : Option (ByteArray × ByteArray) :=
  if (Lib.cut (bs s) [46]).2.2 = true ∧ classP (sb (Lib.cut (bs s) [46]).1) ∧ memP (sb (Lib.cut (bs s) [46]).2.1) then some (sb (Lib.cut (bs s) [46]).1, sb (Lib.cut (bs s) [46]).2.1) else none
def partsV : Option (ByteArray × ByteArray) → Value
  | some (a, b) => .tuple #[.string a, .string b, .int .i64 0]
  | none => .tuple #[.string { data := #[] }, .string { data := #[] }, .int .i64 30]
theorem parts_walk (s : ByteArray) (m : Int) (w0 : World) (hs : s.size ≤ 1000000) (hm : w0.cell? ⟨Tryz.laysCut_ren.g 1, 0, none⟩ = some (.int .i64 m)) : Does Tryz.prog 86 #[.string s] w0 (fun r w' => r = partsV (partsO s) ∧ Nw w0 w') := by
  obtain ⟨a, ha⟩ : ∃ a, a = sb (Lib.cut (bs s) [46]).1 := ⟨_, rfl⟩
  obtain ⟨d, hd⟩ : ∃ d, d = sb (Lib.cut (bs s) [46]).2.1 := ⟨_, rfl⟩
  obtain ⟨f, hf⟩ : ∃ f, f = (Lib.cut (bs s) [46]).2.2 := ⟨_, rfl⟩
  have hp : partsO s = if f = true ∧ classP a ∧ memP d then some (a, d) else none := by rw [ha, hd, hf]; rfl
  have hcut : ∀ w, w.cell? ⟨Tryz.laysCut_ren.g 1, 0, none⟩ = some (.int .i64 m) → Does Tryz.prog 43 #[.string s, .string { data := #[46] }] w (fun r w' => r = .tuple #[.string a, .string d, .bool f] ∧ Nw w w') := fun w h => by
    rw [ha, hd, hf]
    exact cut_use s { data := #[46] } m w h (by omega)
  rw [hp]
  clear ha hd hf hp
  refine fn_of (n := 35) (args := [.string s]) Tryz.func86 rfl rfl rfl ?_
  refine W_seq ?_
  refine W_region ?_
  refine L_r (r_as rfl) ?_
  refine L_r (r_as rfl) ?_
  refine L_r (r_ai rfl) ?_
  refine L_nil ?_
  refine W_seq ?_
  refine W_region ?_
  refine L_r (r_ms rfl) ?_
  refine L_call (.plain rfl) rfl rfl (r_call Tryz.func43 rfl rfl rfl (by rfl)) (hcut _ hm) ?_
  rintro v10 w1 ⟨rfl, c1⟩
  have hz1 := c1.size
  refine L_r (r_mv) ?_
  refine L_r (r_ext3_0 rfl) ?_
  refine L_r (r_ext3_1 rfl) ?_
  refine L_r (r_ext3_2 rfl) ?_
  refine L_r (r_as rfl) ?_
  refine L_r (r_as rfl) ?_
  refine L_r (r_ab rfl) ?_
  refine L_nil ?_
  refine W_seq ?_
  refine W_seq ?_
  refine W_region ?_
  refine L_r (r_mb rfl) ?_
  refine L_r (r_not rfl) ?_
  refine L_r (r_mb rfl) ?_
  refine L_caseb (d := 16) rfl (fun h16 => ?_) (fun h16 => ?_)
  · refine L_ps ?_
    refine L_ps ?_
    refine L_ps ?_
    refine L_r (r_pt rfl rfl) ?_
    refine L_r (r_mb rfl) ?_
    refine L_ps ?_
    refine L_ps ?_
    refine L_ps ?_
    refine L_r (r_pt rfl rfl) ?_
    refine L_r (r_mb rfl) ?_
    refine L_ps ?_
    refine L_ps ?_
    refine L_ps ?_
    refine L_ps ?_
    refine L_ps ?_
    refine L_r (r_pt rfl rfl) ?_
    refine L_nil ?_
    refine W_true rfl ?_
    refine W_seq ?_
    refine W_region ?_
    refine L_r (r_as rfl) ?_
    refine L_r (r_as rfl) ?_
    refine L_r (r_ai rfl) ?_
    refine L_nil ?_
    refine W_ret ?_
    refine ret3 (u := .string _) (v := .string _) (x := .int _ _) rfl rfl rfl rfl ?_
    refine ⟨?_, Ch.au⟩
    (try simp only [decide_eq_true_eq, decide_eq_false_iff_not, Bool.not_eq_true', Bool.not_eq_false'] at *)
    first
    | (rw [if_pos ⟨by assumption, by assumption, hnm, by assumption⟩]; rfl)
    | (rw [if_neg (fun h => by first | (have h1 := h.1; simp_all; done) | exact absurd h.2.1 (by assumption) | exact absurd h.2.2.1 (by assumption) | exact absurd h.2.2.2 (by assumption))]; rfl)
  · refine L_g (r_ms rfl) ?_
    refine L_call (.yes 2 false rfl rfl) rfl rfl (r_call Tryz.func82 rfl rfl rfl (by rfl)) (class_walk a _) ?_
    rintro v18 w2 ⟨rfl, c2⟩
    have hz2 := c2.size
    refine L_g (r_not rfl) ?_
    refine L_r (r_pf rfl rfl) ?_
    refine L_r (r_mb rfl) ?_
    refine L_caseb (d := 21) rfl (fun h21 => ?_) (fun h21 => ?_)
    · refine L_ps ?_
      refine L_ps ?_
      refine L_ps ?_
      refine L_r (r_pt rfl rfl) ?_
      refine L_r (r_mb rfl) ?_
      refine L_ps ?_
      refine L_ps ?_
      refine L_ps ?_
      refine L_ps ?_
      refine L_ps ?_
      refine L_r (r_pt rfl rfl) ?_
      refine L_nil ?_
      refine W_true rfl ?_
      refine W_seq ?_
      refine W_region ?_
      refine L_r (r_as rfl) ?_
      refine L_r (r_as rfl) ?_
      refine L_r (r_ai rfl) ?_
      refine L_nil ?_
      refine W_ret ?_
      refine ret3 (u := .string _) (v := .string _) (x := .int _ _) rfl rfl rfl rfl ?_
      refine ⟨?_, Ch.au⟩
      (try simp only [decide_eq_true_eq, decide_eq_false_iff_not, Bool.not_eq_true', Bool.not_eq_false'] at *)
      first
      | (rw [if_pos ⟨by assumption, by assumption, hnm, by assumption⟩]; rfl)
      | (rw [if_neg (fun h => by first | (have h1 := h.1; simp_all; done) | exact absurd h.2.1 (by assumption) | exact absurd h.2.2.1 (by assumption) | exact absurd h.2.2.2 (by assumption))]; rfl)
    · refine L_g (r_ms rfl) ?_
      refine L_call (.yes 7 false rfl rfl) rfl rfl (r_call Tryz.func103 rfl rfl rfl (by rfl)) (name_walk d _) ?_
      rintro v23 w3 ⟨rfl, c3⟩
      have hz3 := c3.size
      refine L_g (r_not rfl) ?_
      refine L_r (r_pf rfl rfl) ?_
      refine L_r (r_mb rfl) ?_
      refine L_caseb (d := 26) rfl (fun h26 => ?_) (fun h26 => ?_)
      · refine L_ps ?_
        refine L_ps ?_
        refine L_ps ?_
        refine L_ps ?_
        refine L_ps ?_
        refine L_r (r_pt rfl rfl) ?_
        refine L_nil ?_
        refine W_true rfl ?_
        refine W_seq ?_
        refine W_region ?_
        refine L_r (r_as rfl) ?_
        refine L_r (r_as rfl) ?_
        refine L_r (r_ai rfl) ?_
        refine L_nil ?_
        refine W_ret ?_
        refine ret3 (u := .string _) (v := .string _) (x := .int _ _) rfl rfl rfl rfl ?_
        refine ⟨?_, Ch.au⟩
        (try simp only [decide_eq_true_eq, decide_eq_false_iff_not, Bool.not_eq_true', Bool.not_eq_false'] at *)
        first
        | (rw [if_pos ⟨by assumption, by assumption, hnm, by assumption⟩]; rfl)
        | (rw [if_neg (fun h => by first | (have h1 := h.1; simp_all; done) | exact absurd h.2.1 (by assumption) | exact absurd h.2.2.1 (by assumption) | exact absurd h.2.2.2 (by assumption))]; rfl)
      · have hnm : nameP d := by simpa using h26
        have hpos := hnm.1
        have hbt := (bat d 0).toNat_lt
        refine L_g (r_ms rfl) ?_
        refine L_g (r_indexs Tryz.underlying9 rfl rfl (by omega) (by omega) (by conv => lhs; (try simp only [Nat.mul_one, Nat.zero_add, Int.toNat_natCast, Int.toNat_zero, Int.reduceToNat, Nat.reduceMul, Nat.reduceAdd]))) ?_
        refine L_g (r_conv Tryz.underlying5 Tryz.underlying21 rfl (by first | exact wr_i32 (by omega) | rfl)) ?_
        refine L_call (.yes 12 false rfl rfl) rfl rfl (r_call Tryz.func106 rfl rfl rfl (by rfl)) (small_walk _ _) ?_
        rintro v30 w4 ⟨rfl, rfl⟩
        refine L_g (r_not rfl) ?_
        refine L_r (r_pf rfl rfl) ?_
        refine L_nil ?_
        refine W_bool rfl (fun h32 => ?_) (fun h32 => ?_)
        · refine W_seq ?_
          refine W_region ?_
          refine L_r (r_as rfl) ?_
          refine L_r (r_as rfl) ?_
          refine L_r (r_ai rfl) ?_
          refine L_nil ?_
          refine W_ret ?_
          refine ret3 (u := .string _) (v := .string _) (x := .int _ _) rfl rfl rfl rfl ?_
          refine ⟨?_, Ch.au⟩
          (try simp only [decide_eq_true_eq, decide_eq_false_iff_not, Bool.not_eq_true', Bool.not_eq_false'] at *)
          first
          | (rw [if_pos ⟨by assumption, by assumption, hnm, by assumption⟩]; rfl)
          | (rw [if_neg (fun h => by first | (have h1 := h.1; simp_all; done) | exact absurd h.2.1 (by assumption) | exact absurd h.2.2.1 (by assumption) | exact absurd h.2.2.2 (by assumption))]; rfl)
        · refine W_skip ?_
          refine W_seq ?_
          refine W_region ?_
          refine L_r (r_ms rfl) ?_
          refine L_r (r_ms rfl) ?_
          refine L_r (r_as rfl) ?_
          refine L_r (r_as rfl) ?_
          refine L_r (r_ai rfl) ?_
          refine L_nil ?_
          refine W_ret ?_
          refine ret3 (u := .string _) (v := .string _) (x := .int _ _) rfl rfl rfl rfl ?_
          refine ⟨?_, Ch.au⟩
          (try simp only [decide_eq_true_eq, decide_eq_false_iff_not, Bool.not_eq_true', Bool.not_eq_false'] at *)
          first
          | (rw [if_pos ⟨by assumption, by assumption, hnm, by assumption⟩]; rfl)
          | (rw [if_neg (fun h => by first | (have h1 := h.1; simp_all; done) | exact absurd h.2.1 (by assumption) | exact absurd h.2.2.1 (by assumption) | exact absurd h.2.2.2 (by assumption))]; rfl)
end Go.Proofs.YtioonbfinnigpaaGreatDoor

