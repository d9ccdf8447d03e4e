/- Instructions of bytes; walked. -/
import Derived.Test.YtioonbfinnigpaaGreatDoorCode10
namespace Go.Proofs.YtioonbfinnigpaaGreatDoor
open Go Go.RowKit
set_option linter.unusedVariables false
set_option linter.unusedSimpArgs false
set_option maxRecDepth 100000
def endE (l : List UInt8) (st : Nat × Int) : Int := if st.2 = 0 ∧ st.1 ≠ l.length then 13 else st.2
/-- Are bytes instructions? -/
def getIs (l : List UInt8) : Prop := endE l (takeA l (0, 0)).st = 0 ∧ ¬ (takeL l (0, 0) = [] ∧ l ≠ [0])
instance (l : List UInt8) : Decidable (getIs l) := inferInstanceAs (Decidable (_ ∧ ¬ (_ ∧ _)))
theorem rd_end (base b : Nat) (v : Value) (l : List UInt8) (st : Nat × Int) (w0 : World) (hR : RdAt base w0 b v l st.1 st.2) : Does Tryz.prog 14 #[.pointer (some ⟨b, 0, none⟩)] w0 (fun r w' => ∃ a, r = .tuple #[.int .i64 a, .int .i64 (endE l st)] ∧ Nw w0 w') :=
  (rdend_walk base b v l st.1 st.2 w0 hR).mono (by rintro r w' ⟨rfl, c⟩; exact ⟨_, rfl, c⟩)
theorem iget_walk (base : Nat) (v : Value) (l : List UInt8) (w0 : World) (hG : Gv base w0) (hb : base ≤ w0.heap.size) (hv : Sl w0 v 1 l.length (l.map b8)) (hl : l.length ≤ 1000000) : Does Tryz.prog 17 #[v] w0 (fun r w' => ∃ v' e, r = .tuple #[v', .int .i64 e] ∧ (¬ getIs l → e = 42 ∧ v' = .slice none 0 0) ∧ (getIs l → e = 0 ∧ Ow w' w0.heap.size 47 3 v' (takeL l (0, 0)).length (cellsI (takeL l (0, 0)))) ∧ Nw w0 w') := by
  refine fn_of (n := 30) (args := [v]) Tryz.func17 rfl rfl rfl ?_
  refine W_seq ?_
  refine W_region ?_
  refine L_r (r_av) ?_
  refine L_r (r_ai rfl) ?_
  refine L_nil ?_
  refine W_seq ?_
  refine W_region ?_
  refine L_r (r_mv) ?_
  refine L_call (.plain rfl) rfl rfl (r_call Tryz.func9 rfl rfl rfl (by rfl)) (read_walk v l _ Sl.au (by omega)) ?_
  rintro v9 w1 ⟨br, vr, rfl, hRd, c1⟩
  have hz1 := c1.size
  have hbr := hRd.hb
  have hRb : RdAt base w1 br vr l 0 0 := hRd.down (by omega)
  refine L_r (r_ap rfl) ?_
  refine L_nil ?_
  refine W_seq ?_
  refine W_region ?_
  refine L_r (r_mp rfl) ?_
  refine L_call (.plain rfl) rfl rfl (r_call Tryz.func12 rfl rfl rfl (by rfl)) (itake_walk base br vr l 0 0 _ (hG.nw Ch.au hb) (hRb.nw Ch.au) (by omega)) ?_
  rintro v11 w2 ⟨vt, rfl, hot, hRt, c2⟩
  have hz2 := c2.size
  obtain ⟨z, hz⟩ : ∃ z, z = takeL l (0, 0) := ⟨_, rfl⟩
  rw [← hz] at hot
  have hcI := hz2
  refine L_r (r_av) ?_
  refine L_nil ?_
  refine W_seq ?_
  refine W_seq ?_
  refine W_region ?_
  refine L_r (r_mp rfl) ?_
  refine L_call (.plain rfl) rfl rfl (r_call Tryz.func14 rfl rfl rfl (by rfl)) (rd_end base br vr l (takeA l (0, 0)).st _ (hRt.nw Ch.au)) ?_
  rintro v14 w3 ⟨ae, rfl, c3⟩
  have hz3 := c3.size
  refine L_r (r_mv) ?_
  refine L_r (r_ext2_0 rfl) ?_
  refine L_r (r_ext2_1 rfl) ?_
  refine L_r (r_ai rfl) ?_
  refine L_r (r_ai rfl) ?_
  refine L_nil ?_
  refine W_seq ?_
  refine W_region ?_
  refine L_r (r_mi rfl) ?_
  refine L_r (r_neq rfl rfl) ?_
  refine L_r (r_mb rfl) ?_
  refine L_case (d := 19) rfl (fun h19 => ?_) (fun h19 => ?_)
  · refine L_ps ?_
    refine L_ps ?_
    refine L_ps ?_
    refine L_ps ?_
    refine L_pu ?_
    refine L_pu ?_
    refine L_pu ?_
    refine L_ps ?_
    refine L_r (r_pt rfl rfl) ?_
    refine L_nil ?_
    refine W_true rfl ?_
    refine W_seq ?_
    refine W_region ?_
    refine L_r (r_av) ?_
    refine L_r (r_ai rfl) ?_
    refine L_nil ?_
    refine W_ret ?_
    refine ret2 (v := .int _ _) rfl (by conv => lhs; whnf) rfl ?_
    have hsb : sb l = { data := #[0] } ↔ l = [0] := by
      constructor
      · intro h; have h2 : sb l = sb [0] := h; exact sb_inj.1 h2
      · intro h; rw [h]; rfl
    by_cases hgi : getIs l
    · refine ⟨_, _, rfl, fun h => absurd hgi h, fun _ => ?_, Ch.au⟩
      obtain ⟨k1, k2⟩ := hgi
      rw [← hz] at k2
      first
      | (refine ⟨rfl, ?_⟩
         rw [← hz]
         exact Ow.mono Ow.au (by omega))
      | (exfalso; exact h19 k1)
      | (exfalso; exact k2 ⟨List.length_eq_zero_iff.1 (by omega), fun h => h28 (hsb.2 h)⟩)
    · refine ⟨_, _, rfl, fun _ => ?_, fun h => absurd h hgi, Ch.au⟩
      first
      | exact ⟨rfl, rfl⟩
      | (exfalso; exact hgi ⟨Classical.not_not.1 h19, fun h => h.2 (hsb.1 (Classical.not_not.1 h28))⟩)
      | (exfalso; exact hgi ⟨Classical.not_not.1 h19, fun h => h23 (by rw [hz, h.1]; rfl)⟩)
  · refine L_g (r_mv) ?_
    refine L_g (r_lenSl Tryz.underlying22 (by conv => lhs; whnf) Sl.au) ?_
    refine L_g (r_eql rfl rfl) ?_
    refine L_g (r_mb rfl) ?_
    refine L_case (d := 23) rfl (fun h23 => ?_) (fun h23 => ?_)
    · refine L_g (r_mv) ?_
      refine L_g (r_bstr Tryz.underlying30 Tryz.underlying5 Tryz.underlying9 (by conv => lhs; whnf) Sl.au) ?_
      refine L_g (r_neqs rfl rfl) ?_
      refine L_g (r_pt rfl rfl) ?_
      refine L_r (r_pf rfl rfl) ?_
      refine L_nil ?_
      refine W_if rfl (fun h28 => ?_) (fun h28 => ?_)
      · refine W_seq ?_
        refine W_region ?_
        refine L_r (r_av) ?_
        refine L_r (r_ai rfl) ?_
        refine L_nil ?_
        refine W_ret ?_
        refine ret2 (v := .int _ _) rfl (by conv => lhs; whnf) rfl ?_
        have hsb : sb l = { data := #[0] } ↔ l = [0] := by
          constructor
          · intro h; have h2 : sb l = sb [0] := h; exact sb_inj.1 h2
          · intro h; rw [h]; rfl
        by_cases hgi : getIs l
        · refine ⟨_, _, rfl, fun h => absurd hgi h, fun _ => ?_, Ch.au⟩
          obtain ⟨k1, k2⟩ := hgi
          rw [← hz] at k2
          first
          | (refine ⟨rfl, ?_⟩
             rw [← hz]
             exact Ow.mono Ow.au (by omega))
          | (exfalso; exact h19 k1)
          | (exfalso; exact k2 ⟨List.length_eq_zero_iff.1 (by omega), fun h => h28 (hsb.2 h)⟩)
        · refine ⟨_, _, rfl, fun _ => ?_, fun h => absurd h hgi, Ch.au⟩
          first
          | exact ⟨rfl, rfl⟩
          | (exfalso; exact hgi ⟨Classical.not_not.1 h19, fun h => h.2 (hsb.1 (Classical.not_not.1 h28))⟩)
          | (exfalso; exact hgi ⟨Classical.not_not.1 h19, fun h => h23 (by rw [hz, h.1]; rfl)⟩)
      · refine W_skip ?_
        refine W_seq ?_
        refine W_region ?_
        refine L_r (r_mv) ?_
        refine L_r (r_av) ?_
        refine L_r (r_ai rfl) ?_
        refine L_nil ?_
        refine W_ret ?_
        refine ret2 (v := .int _ _) rfl (by conv => lhs; whnf) rfl ?_
        have hsb : sb l = { data := #[0] } ↔ l = [0] := by
          constructor
          · intro h; have h2 : sb l = sb [0] := h; exact sb_inj.1 h2
          · intro h; rw [h]; rfl
        by_cases hgi : getIs l
        · refine ⟨_, _, rfl, fun h => absurd hgi h, fun _ => ?_, Ch.au⟩
          obtain ⟨k1, k2⟩ := hgi
          rw [← hz] at k2
          first
          | (refine ⟨rfl, ?_⟩
             rw [← hz]
             exact Ow.mono Ow.au (by omega))
          | (exfalso; exact h19 k1)
          | (exfalso; exact k2 ⟨List.length_eq_zero_iff.1 (by omega), fun h => h28 (hsb.2 h)⟩)
        · refine ⟨_, _, rfl, fun _ => ?_, fun h => absurd h hgi, Ch.au⟩
          first
          | exact ⟨rfl, rfl⟩
          | (exfalso; exact hgi ⟨Classical.not_not.1 h19, fun h => h.2 (hsb.1 (Classical.not_not.1 h28))⟩)
          | (exfalso; exact hgi ⟨Classical.not_not.1 h19, fun h => h23 (by rw [hz, h.1]; rfl)⟩)
    · refine L_ps ?_
      refine L_ps ?_
      refine L_ps ?_
      refine L_g (r_pf rfl rfl) ?_
      refine L_r (r_pf rfl rfl) ?_
      refine L_nil ?_
      refine W_false rfl ?_
      refine W_skip ?_
      refine W_seq ?_
      refine W_region ?_
      refine L_r (r_mv) ?_
      refine L_r (r_av) ?_
      refine L_r (r_ai rfl) ?_
      refine L_nil ?_
      refine W_ret ?_
      refine ret2 (v := .int _ _) rfl (by conv => lhs; whnf) rfl ?_
      have hsb : sb l = { data := #[0] } ↔ l = [0] := by
        constructor
        · intro h; have h2 : sb l = sb [0] := h; exact sb_inj.1 h2
        · intro h; rw [h]; rfl
      by_cases hgi : getIs l
      · refine ⟨_, _, rfl, fun h => absurd hgi h, fun _ => ?_, Ch.au⟩
        obtain ⟨k1, k2⟩ := hgi
        rw [← hz] at k2
        first
        | (refine ⟨rfl, ?_⟩
           rw [← hz]
           exact Ow.mono Ow.au (by omega))
        | (exfalso; exact h19 k1)
        | (exfalso; exact k2 ⟨List.length_eq_zero_iff.1 (by omega), fun h => h28 (hsb.2 h)⟩)
      · refine ⟨_, _, rfl, fun _ => ?_, fun h => absurd h hgi, Ch.au⟩
        first
        | exact ⟨rfl, rfl⟩
        | (exfalso; exact hgi ⟨Classical.not_not.1 h19, fun h => h.2 (hsb.1 (Classical.not_not.1 h28))⟩)
        | (exfalso; exact hgi ⟨Classical.not_not.1 h19, fun h => h23 (by rw [hz, h.1]; rfl)⟩)
end Go.Proofs.YtioonbfinnigpaaGreatDoor

