/- The library's sort of numbers, whatever they are. -/
import Derived.Test.YtjjddbicggfgnaaSortR
namespace Go.Proofs.Ytjjddbicggfgnaa
open Go Go.RowKit
set_option linter.unusedVariables false
set_option linter.unusedSimpArgs false
theorem pdq_all (base : Nat) (v : Value) : ∀ (n : Nat) (X : List Nat) (a b lim : Nat) (w0 : World), b - a = n → Dt base w0 v X → a ≤ b → b ≤ X.length → X.length ≤ 60000 → lim ≤ 1000 → Ahd a b X → PdqD base v X a b lim w0 := by
  intro n
  induction n using Nat.strongRecOn with
  | ind n ih =>
    intro X a b lim w0 hn hv hab hb hl hlim hA
    exact pdq_walk base v X a b lim w0 hv hab hb hl hlim hA (fun X' a' b' lim' w' hlt hv' hab' hb' hl' hlim' hA' => ih (b' - a') (by omega) X' a' b' lim' w' rfl hv' hab' hb' hl' hlim' hA')
theorem pdq (base : Nat) (v : Value) (X : List Nat) (lim : Nat) (w0 : World) (hv : Dt base w0 v X) (hl : X.length ≤ 60000) (hlim : lim ≤ 1000) : PdqD base v X 0 X.length lim w0 :=
  pdq_all base v X.length X 0 X.length lim w0 rfl hv (Nat.zero_le _) (Nat.le_refl _) hl hlim (fun h => absurd h (by omega))
theorem sort_walk (base : Nat) (v : Value) (X : List Nat) (w0 : World) (hv : Dt base w0 v X) (hl : X.length ≤ 60000) : Does Try.prog 37 #[v] w0 (fun r w' => r = .tuple #[] ∧ (∃ Y, Dt base w' v Y ∧ Rg 0 X.length X Y ∧ Srt 0 X.length Y) ∧ DtC v w0 w') := by
  refine fn_of (n := 11) (args := [v]) Try.func37 rfl rfl rfl ?_
  refine W_seq ?_
  refine W_region ?_
  refine L_r (r_mv) ?_
  refine L_r (r_lenSl Try.underlying80 (by conv => lhs; whnf) Sl.au) ?_
  refine L_r (r_ai rfl) ?_
  refine L_nil ?_
  refine W_region ?_
  refine L_r (r_mv) ?_
  refine L_r (r_mi rfl) ?_
  refine L_r (r_mi rfl) ?_
  refine L_r (r_conv Try.underlying3 Try.underlying85 rfl (by first | exact wr_u64 (by omega) | rfl)) ?_
  refine L_call (.plain rfl) rfl rfl (r_call Try.func42 rfl rfl rfl (by rfl)) (len_walk X.length _ (by omega)) ?_
  rintro v9 w1 ⟨k, rfl, hk, hk2, c1⟩
  have hz1 := c1.size
  refine L_call (.plain rfl) rfl rfl (r_call Try.func41 rfl rfl rfl (by rfl)) (pdq base v X k _ Ow.au hl (by omega)) ?_
  rintro v10 w2 ⟨rfl, hY, c2⟩
  have hz2 := c2.size
  refine L_nil ?_
  refine ret0 rfl  ?_
  exact ⟨rfl, hY, Ch.au⟩
end Go.Proofs.Ytjjddbicggfgnaa

