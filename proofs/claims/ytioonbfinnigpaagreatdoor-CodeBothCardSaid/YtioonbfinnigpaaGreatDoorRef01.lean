/- Whole characters, a number, a field: the document's; walked. -/
import Derived.Test.YtioonbfinnigpaaGreatDoorPackP
import Derived.Lib.ValidLaws
namespace Go.Proofs.YtioonbfinnigpaaGreatDoor
open Go Go.RowKit
set_option linter.unusedVariables false
set_option maxRecDepth 100000
set_option linter.unusedSimpArgs false
/-- How many bytes a character has, by the document: of n bytes the first four. -/
def charN (n c b1 b2 b3 : Nat) : Nat :=
  if c < 128 then 1
  else if (194 ≤ c ∧ c < 224) ∧ (1 < n ∧ 128 ≤ b1 ∧ b1 < 192) then 2
  else if ((224 ≤ c ∧ c < 240) ∧ (1 < n ∧ 128 ≤ b1 ∧ b1 < 192)) ∧ (2 < n ∧ 128 ≤ b2 ∧ b2 < 192) then
    (if 2048 ≤ c % 16 * 4096 + b1 % 64 * 64 + b2 % 64 ∧ (c % 16 * 4096 + b1 % 64 * 64 + b2 % 64 < 55296 ∨ 57343 < c % 16 * 4096 + b1 % 64 * 64 + b2 % 64) then 3 else 0)
  else if (((240 ≤ c ∧ c < 245) ∧ (1 < n ∧ 128 ≤ b1 ∧ b1 < 192)) ∧ (2 < n ∧ 128 ≤ b2 ∧ b2 < 192)) ∧ (3 < n ∧ 128 ≤ b3 ∧ b3 < 192) then
    (if 65536 ≤ c % 8 * 262144 + b1 % 64 * 4096 + b2 % 64 * 64 + b3 % 64 ∧ c % 8 * 262144 + b1 % 64 * 4096 + b2 % 64 * 64 + b3 % 64 ≤ 1114111 then 4 else 0)
  else 0
section
variable {n c b1 b2 b3 : Nat}
theorem first_is (F : Nat) (h0 : 128 ≤ c) (_ : c < 194 → F = 241) (_ : 194 ≤ c → c < 224 → F = 2) (_ : c = 224 → F = 19) (_ : 224 < c → c < 237 → F = 3) (_ : c = 237 → F = 35) (_ : 237 < c → c < 240 → F = 3) (_ : c = 240 → F = 52) (_ : 240 < c → c < 244 → F = 4) (_ : c = 244 → F = 68) (_ : 244 < c → F = 241) : Lib.firstT c = F := by
  unfold Lib.firstT
  repeat' split
  all_goals omega
abbrev Agr (n c b1 b2 b3 : Nat) : Prop := Lib.checkN n b1 b2 b3 (Lib.firstT c % 8) (Lib.accLo (Lib.firstT c / 16)) (Lib.accHi (Lib.firstT c / 16)) = if charN n c b1 b2 b3 = 0 then none else some (charN n c b1 b2 b3)
theorem agr_fin {F lo hi sz : Nat} (e1 : Lib.firstT c = F) (e2 : F % 8 = sz) (e3 : Lib.accLo (F / 16) = lo) (e4 : Lib.accHi (F / 16) = hi) (h4 : ∀ k, Lib.checkN n b1 b2 b3 sz lo hi = some k → charN n c b1 b2 b3 = k ∧ k ≠ 0) (h5 : Lib.checkN n b1 b2 b3 sz lo hi = none → charN n c b1 b2 b3 = 0) : Agr n c b1 b2 b3 := by
  unfold Agr
  rw [e1, e2, e3, e4]
  cases e : Lib.checkN n b1 b2 b3 sz lo hi with
  | none => rw [if_pos (h5 e)]
  | some k => obtain ⟨h6, h7⟩ := h4 k e; rw [h6, if_neg h7]
theorem agr_bad (h0 : 128 ≤ c) (h1 : c < 194 ∨ 244 < c) : Agr n c b1 b2 b3 := by
  have e1 : Lib.firstT c = 241 := first_is 241 h0 (by omega) (by omega) (by omega) (by omega) (by omega) (by omega) (by omega) (by omega) (by omega) (by omega)
  have e2 : charN n c b1 b2 b3 = 0 := by
    unfold charN
    repeat' split
    all_goals omega
  unfold Agr
  rw [e1, if_pos e2]; rfl
theorem ck2 (lo hi : Nat) : Lib.checkN n b1 b2 b3 2 lo hi = if n < 2 ∨ b1 < lo ∨ hi < b1 then none else some 2 := rfl
theorem ck3 (lo hi : Nat) : Lib.checkN n b1 b2 b3 3 lo hi = if n < 3 ∨ b1 < lo ∨ hi < b1 ∨ b2 < 128 ∨ 191 < b2 then none else some 3 := rfl
theorem ck4 (lo hi : Nat) : Lib.checkN n b1 b2 b3 4 lo hi = if n < 4 ∨ b1 < lo ∨ hi < b1 ∨ b2 < 128 ∨ 191 < b2 ∨ b3 < 128 ∨ 191 < b3 then none else some 4 := rfl
theorem agr_0 (h0 : 194 ≤ c) (h1 : c < 224) : Agr n c b1 b2 b3 := by
  refine agr_fin (lo := 128) (hi := 191) (sz := 2) (first_is 2 (by omega) (by omega) (by omega) (by omega) (by omega) (by omega) (by omega) (by omega) (by omega) (by omega) (by omega)) rfl rfl rfl (fun k hk => ?_) (fun hk => ?_)
  · rw [ck2] at hk
    split at hk
    · cases hk
    · injection hk with hk
      subst hk
      refine ⟨?_, by decide⟩
      unfold charN
      repeat' split
      all_goals omega
  · rw [ck2] at hk
    split at hk
    · unfold charN
      repeat' split
      all_goals omega
    · cases hk
theorem agr_1 (h0 : c = 224) (h1 : c = 224) : Agr n c b1 b2 b3 := by
  refine agr_fin (lo := 160) (hi := 191) (sz := 3) (first_is 19 (by omega) (by omega) (by omega) (by omega) (by omega) (by omega) (by omega) (by omega) (by omega) (by omega) (by omega)) rfl rfl rfl (fun k hk => ?_) (fun hk => ?_)
  · rw [ck3] at hk
    split at hk
    · cases hk
    · injection hk with hk
      subst hk
      refine ⟨?_, by decide⟩
      unfold charN
      repeat' split
      all_goals omega
  · rw [ck3] at hk
    split at hk
    · unfold charN
      repeat' split
      all_goals omega
    · cases hk
theorem agr_2 (h0 : 225 ≤ c) (h1 : c < 237) : Agr n c b1 b2 b3 := by
  refine agr_fin (lo := 128) (hi := 191) (sz := 3) (first_is 3 (by omega) (by omega) (by omega) (by omega) (by omega) (by omega) (by omega) (by omega) (by omega) (by omega) (by omega)) rfl rfl rfl (fun k hk => ?_) (fun hk => ?_)
  · rw [ck3] at hk
    split at hk
    · cases hk
    · injection hk with hk
      subst hk
      refine ⟨?_, by decide⟩
      unfold charN
      repeat' split
      all_goals omega
  · rw [ck3] at hk
    split at hk
    · unfold charN
      repeat' split
      all_goals omega
    · cases hk
theorem agr_3 (h0 : c = 237) (h1 : c = 237) : Agr n c b1 b2 b3 := by
  refine agr_fin (lo := 128) (hi := 159) (sz := 3) (first_is 35 (by omega) (by omega) (by omega) (by omega) (by omega) (by omega) (by omega) (by omega) (by omega) (by omega) (by omega)) rfl rfl rfl (fun k hk => ?_) (fun hk => ?_)
  · rw [ck3] at hk
    split at hk
    · cases hk
    · injection hk with hk
      subst hk
      refine ⟨?_, by decide⟩
      unfold charN
      repeat' split
      all_goals omega
  · rw [ck3] at hk
    split at hk
    · unfold charN
      repeat' split
      all_goals omega
    · cases hk
theorem agr_4 (h0 : 238 ≤ c) (h1 : c < 240) : Agr n c b1 b2 b3 := by
  refine agr_fin (lo := 128) (hi := 191) (sz := 3) (first_is 3 (by omega) (by omega) (by omega) (by omega) (by omega) (by omega) (by omega) (by omega) (by omega) (by omega) (by omega)) rfl rfl rfl (fun k hk => ?_) (fun hk => ?_)
  · rw [ck3] at hk
    split at hk
    · cases hk
    · injection hk with hk
      subst hk
      refine ⟨?_, by decide⟩
      unfold charN
      repeat' split
      all_goals omega
  · rw [ck3] at hk
    split at hk
    · unfold charN
      repeat' split
      all_goals omega
    · cases hk
theorem agr_5 (h0 : c = 240) (h1 : c = 240) : Agr n c b1 b2 b3 := by
  refine agr_fin (lo := 144) (hi := 191) (sz := 4) (first_is 52 (by omega) (by omega) (by omega) (by omega) (by omega) (by omega) (by omega) (by omega) (by omega) (by omega) (by omega)) rfl rfl rfl (fun k hk => ?_) (fun hk => ?_)
  · rw [ck4] at hk
    split at hk
    · cases hk
    · injection hk with hk
      subst hk
      refine ⟨?_, by decide⟩
      unfold charN
      repeat' split
      all_goals omega
  · rw [ck4] at hk
    split at hk
    · unfold charN
      repeat' split
      all_goals omega
    · cases hk
theorem agr_6 (h0 : 241 ≤ c) (h1 : c < 244) : Agr n c b1 b2 b3 := by
  refine agr_fin (lo := 128) (hi := 191) (sz := 4) (first_is 4 (by omega) (by omega) (by omega) (by omega) (by omega) (by omega) (by omega) (by omega) (by omega) (by omega) (by omega)) rfl rfl rfl (fun k hk => ?_) (fun hk => ?_)
  · rw [ck4] at hk
    split at hk
    · cases hk
    · injection hk with hk
      subst hk
      refine ⟨?_, by decide⟩
      unfold charN
      repeat' split
      all_goals omega
  · rw [ck4] at hk
    split at hk
    · unfold charN
      repeat' split
      all_goals omega
    · cases hk
theorem agr_7 (h0 : c = 244) (h1 : c = 244) : Agr n c b1 b2 b3 := by
  refine agr_fin (lo := 128) (hi := 143) (sz := 4) (first_is 68 (by omega) (by omega) (by omega) (by omega) (by omega) (by omega) (by omega) (by omega) (by omega) (by omega) (by omega)) rfl rfl rfl (fun k hk => ?_) (fun hk => ?_)
  · rw [ck4] at hk
    split at hk
    · cases hk
    · injection hk with hk
      subst hk
      refine ⟨?_, by decide⟩
      unfold charN
      repeat' split
      all_goals omega
  · rw [ck4] at hk
    split at hk
    · unfold charN
      repeat' split
      all_goals omega
    · cases hk
theorem char_check (hc : 128 ≤ c) : Agr n c b1 b2 b3 := by
  by_cases a : c < 194 ∨ 244 < c
  · exact agr_bad hc a
  by_cases a0 : c < 224
  · exact agr_0 (by omega) (by omega)
  by_cases a1 : c = 224
  · exact agr_1 (by omega) (by omega)
  by_cases a2 : c < 237
  · exact agr_2 (by omega) (by omega)
  by_cases a3 : c = 237
  · exact agr_3 (by omega) (by omega)
  by_cases a4 : c < 240
  · exact agr_4 (by omega) (by omega)
  by_cases a5 : c = 240
  · exact agr_5 (by omega) (by omega)
  by_cases a6 : c < 244
  · exact agr_6 (by omega) (by omega)
  exact agr_7 (by omega) (by omega)
end
/-- How many bytes a character has, by the document. -/
def charL (l : List UInt8) : Nat := charN l.length (l.getD 0 0).toNat (l.getD 1 0).toNat (l.getD 2 0).toNat (l.getD 3 0).toNat
theorem valid_char (l : List UInt8) (hne : l ≠ []) : Lib.validD l = if charL l = 0 then false else Lib.validD (l.drop (charL l)) := by
  by_cases h0 : 128 ≤ (l.getD 0 0).toNat
  · rw [Lib.validD_lead l hne h0]
    have h := char_check (n := l.length) (b1 := (l.getD 1 0).toNat) (b2 := (l.getD 2 0).toNat) (b3 := (l.getD 3 0).toNat) h0
    unfold Agr at h
    rw [h]
    unfold charL
    split <;> rename_i h1 <;> split at h1 <;> simp_all
  · match l, hne with
    | c :: t, _ =>
      have hc : c.toNat < 128 := by simpa using h0
      have e : charL (c :: t) = 1 := by
        unfold charL charN
        rw [if_pos (by simpa using hc)]
      rw [e, if_neg (by decide), Lib.validD_cons c t hc]; rfl
theorem charL_le (l : List UInt8) (hne : l ≠ []) : charL l ≤ l.length := by
  have := List.length_pos_iff.2 hne
  unfold charL charN
  repeat' split
  all_goals omega
end Go.Proofs.YtioonbfinnigpaaGreatDoor

