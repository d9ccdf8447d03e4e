/- The statement CodeGets, walked. -/
import Derived.Test.YtioonbfinnigpaaDoorCodeA
import Derived.Test.YtioonbfinnigpaaDoorCodeC
import Derived.Test.YtioonbfinnigpaaDoorCode11
import Derived.Test.YtioonbfinnigpaaDoorRef04e
namespace Go.Proofs.YtioonbfinnigpaaDoor
open Go Go.RowKit
set_option linter.unusedVariables false
set_option linter.unusedSimpArgs false
set_option maxRecDepth 100000
theorem takeL_len (l : List UInt8) (st : Nat × Int) : (takeL l st).length ≤ 200 := by
  unfold takeL
  split
  · exact Nat.zero_le _
  · have h1 := takeN_len l ⟨cs l st, true, []⟩ (cn l st)
    have h2 := cn_le l st
    have h3 : (takeA l st).out.length ≤ 0 + cn l st := h1
    omega
theorem gets_key {l : List UInt8} {w1 w2 : World} {n1 n2 : Nat} {v v' : Value} {e : Int} {s' : ByteArray} {b : Bool} (hno : ¬ getIs l → e = 42 ∧ v = .slice none 0 0) (hyes : getIs l → e = 0 ∧ Ow w1 n1 23 3 v (takeL l (0, 0)).length (cellsI (takeL l (0, 0))))
    (hrno : rTake l = none → b = false) (hryes : ∀ z m, rTake l = some (z, m) → b = true ∧ s' = sb m ∧ Ow w2 n2 23 3 v' z.length (cellsI z)) :
    (∃ z : List Ins, b = true ∧ s' = { data := #[] } ∧ e = 0 ∧ z.length ≤ 200 ∧ Ow w1 n1 23 3 v z.length (cellsI z) ∧ Ow w2 n2 23 3 v' z.length (cellsI z)) ∨ ((b = false ∨ s' ≠ { data := #[] }) ∧ e = 42 ∧ v = .slice none 0 0) := by
  cases hr : rTake l with
  | none => exact .inr ⟨.inl (hrno hr), hno (take_no fun z h => by rw [hr] at h; cases h)⟩
  | some p =>
    obtain ⟨z, m⟩ := p
    obtain ⟨k1, k2, k3⟩ := hryes z m hr
    by_cases hm : m = []
    · subst hm
      obtain ⟨g1, g2⟩ := take_ok hr
      obtain ⟨k4, k5⟩ := hyes g1
      rw [g2] at k5
      exact .inl ⟨z, k1, k2, k4, by rw [← g2]; exact takeL_len l (0, 0), k5, k3⟩
    · refine .inr ⟨.inr fun h => hm ?_, hno (take_no fun z' h => ?_)⟩
      · rw [k2] at h
        have h2 : sb m = sb [] := h
        exact sb_inj.1 h2
      · rw [hr] at h
        injection h with h
        injection h with _ h
        exact hm h
theorem gets_yes {A : List Ins → Prop} {B C : Prop} (h : (∃ z, A z) ∨ (B ∧ C)) (hn : ¬ B) : ∃ z, A z := h.resolve_right fun k => hn k.1
set_option maxHeartbeats 1000000 in
theorem CodeGets_walk (s : ByteArray) (w0 : World) (hs : s.size ≤ 140737488351232) (hL : Lv w0) : Does Tryd.prog 5 #[.string s] w0 (fun r w' => r = .bool true ∧ Nw w0 w') := by
  have hG := fun W (c : Nw w0 W) => hL.gv.nw c (Nat.le_refl _)
  have hF := fun W (c : Nw w0 W) => hL.fv.nw c (Nat.le_refl _)
  have hbl := bs_length s
  refine fn_of (n := 50) (args := [.string s]) Tryd.func5 rfl rfl rfl ?_
  refine W_seq ?_
  refine W_region ?_
  refine L_r (r_ab rfl) ?_
  refine L_nil ?_
  refine W_seq ?_
  refine W_seq ?_
  refine W_region ?_
  refine L_r (r_ms rfl) ?_
  refine L_r (r_lens Tryd.underlying9 rfl) ?_
  refine L_r (r_gtr rfl rfl) ?_
  refine L_nil ?_
  refine W_if rfl (fun h10 => ?_) (fun h10 => ?_)
  · refine W_seq ?_
    refine W_region ?_
    refine L_call (.plain rfl) rfl rfl (r_call Tryd.func8 rfl rfl rfl (by rfl)) (awake04_walk w0.heap.size _ (hG _ Ch.au) (hF _ Ch.au) (by omega)) ?_
    rintro v11 w1 ⟨rfl, c1⟩
    have hz1 := c1.size
    refine L_r (r_ab rfl) ?_
    refine L_nil ?_
    refine W_ret ?_
    refine ret1 (v := .bool _) rfl rfl ?_
    refine ⟨?_, Ch.au⟩
    first
    | rfl
    | exact congrArg Value.bool (hbb.2 rfl)
    | (trace_state; sorry)
  · refine W_skip ?_
    refine W_seq ?_
    refine W_region ?_
    refine L_r (r_ms rfl) ?_
    refine L_sbytes Tryd.underlying9 Tryd.underlying38 Tryd.underlying5 (by first | omega | (simp only [sb_size, ByteArray.size_append]; omega)) (.plain rfl) rfl rfl (fun v14 w2 hv14 c2 eb2 hs2 => ?_)
    refine L_call (.plain rfl) rfl rfl (r_call Tryd.func15 rfl rfl rfl (by rfl)) (iget_walk w0.heap.size _ (bs s) _ (hG _ Ch.au) (by omega) (by rw [bs_length]; (exact Sl.au)) (by omega)) ?_
    rintro v15 w3 ⟨v15, e15, rfl, hno, hyes, c3⟩
    have hz3 := c3.size
    refine L_r (r_mv) ?_
    refine L_r (r_ext2_0 rfl) ?_
    refine L_r (r_ext2_1 rfl) ?_
    refine L_r (r_av) ?_
    refine L_r (r_ai rfl) ?_
    refine L_nil ?_
    refine W_seq ?_
    refine W_region ?_
    refine L_r (r_ms rfl) ?_
    refine L_call (.plain rfl) rfl rfl (r_call Tryd.func16 rfl rfl rfl (by rfl)) (rtake04_walk s _ (by omega)) ?_
    rintro v20 w4 ⟨v20, s20, b20, rfl, hrno, hryes, c4⟩
    have hz4 := c4.size
    have key := gets_key hno hyes hrno hryes
    refine L_r (r_mv) ?_
    refine L_r (r_ext3_0 rfl) ?_
    refine L_r (r_ext3_1 rfl) ?_
    refine L_r (r_ext3_2 rfl) ?_
    refine L_r (r_av) ?_
    refine L_r (r_as rfl) ?_
    refine L_r (r_ab rfl) ?_
    refine L_nil ?_
    refine W_seq ?_
    refine W_seq ?_
    refine W_region ?_
    refine L_r (r_mb rfl) ?_
    refine L_r (r_not rfl) ?_
    refine L_r (r_mb rfl) ?_
    refine L_caseb (d := 26) rfl (fun h26 => ?_) (fun h26 => ?_)
    · obtain ⟨he, hv⟩ : e15 = 42 ∧ v15 = .slice none 0 0 := by
        rcases key with ⟨z, k, _⟩ | ⟨_, k⟩
        · rw [k] at h26; cases h26
        · exact k
      subst he hv
      have hnil := Sl.nil w4 3
      refine L_ps ?_
      refine L_ps ?_
      refine L_r (r_pt rfl rfl) ?_
      refine L_nil ?_
      refine W_true rfl ?_
      refine W_seq ?_
      refine W_region ?_
      refine L_call (.plain rfl) rfl rfl (r_call Tryd.func8 rfl rfl rfl (by rfl)) (awake04_walk w0.heap.size _ (hG _ Ch.au) (hF _ Ch.au) (by omega)) ?_
      rintro v30 w5 ⟨rfl, c5⟩
      have hz5 := c5.size
      refine L_r (r_mb rfl) ?_
      refine L_as (v := .bool _) (v' := .bool true) 31 rfl (congrArg Value.bool (by rfl)) ?_
      refine L_g (r_mv) ?_
      refine L_g (r_lenSl Tryd.underlying25 (by conv => lhs; whnf) Sl.au) ?_
      refine L_g (r_eql rfl rfl) ?_
      refine L_as (v := .bool _) (v' := .bool true) 34 rfl (dec_t (by rfl)).symm ?_
      refine L_r (r_pt rfl rfl) ?_
      refine L_r (r_mb rfl) ?_
      refine L_g (r_mi rfl) ?_
      refine L_g (r_eql rfl rfl) ?_
      refine L_r (r_pt rfl rfl) ?_
      refine L_r (r_ab rfl) ?_
      refine L_nil ?_
      refine W_ret ?_
      refine ret1 (v := .bool _) rfl rfl ?_
      refine ⟨?_, Ch.au⟩
      first
      | rfl
      | exact congrArg Value.bool (hbb.2 rfl)
      | (trace_state; sorry)
    · refine L_g (r_ms rfl) ?_
      refine L_g (r_neqs rfl rfl) ?_
      refine L_r (r_pf rfl rfl) ?_
      refine L_nil ?_
      refine W_if rfl (fun h29 => ?_) (fun h29 => ?_)
      · obtain ⟨he, hv⟩ : e15 = 42 ∧ v15 = .slice none 0 0 := by
          rcases key with ⟨z, _, k, _⟩ | ⟨_, k⟩
          · exact absurd k h29
          · exact k
        subst he hv
        have hnil := Sl.nil w4 3
        refine W_seq ?_
        refine W_region ?_
        refine L_call (.plain rfl) rfl rfl (r_call Tryd.func8 rfl rfl rfl (by rfl)) (awake04_walk w0.heap.size _ (hG _ Ch.au) (hF _ Ch.au) (by omega)) ?_
        rintro v30 w6 ⟨rfl, c6⟩
        have hz6 := c6.size
        refine L_r (r_mb rfl) ?_
        refine L_as (v := .bool _) (v' := .bool true) 31 rfl (congrArg Value.bool (by rfl)) ?_
        refine L_g (r_mv) ?_
        refine L_g (r_lenSl Tryd.underlying25 (by conv => lhs; whnf) Sl.au) ?_
        refine L_g (r_eql rfl rfl) ?_
        refine L_as (v := .bool _) (v' := .bool true) 34 rfl (dec_t (by rfl)).symm ?_
        refine L_r (r_pt rfl rfl) ?_
        refine L_r (r_mb rfl) ?_
        refine L_g (r_mi rfl) ?_
        refine L_g (r_eql rfl rfl) ?_
        refine L_r (r_pt rfl rfl) ?_
        refine L_r (r_ab rfl) ?_
        refine L_nil ?_
        refine W_ret ?_
        refine ret1 (v := .bool _) rfl rfl ?_
        refine ⟨?_, Ch.au⟩
        first
        | rfl
        | exact congrArg Value.bool (hbb.2 rfl)
        | (trace_state; sorry)
      · obtain ⟨z, _, _, he, hz1, hO1, hO2⟩ := gets_yes key (by
          rintro (k | k)
          · rw [k] at h26; cases h26
          · exact h29 k)
        subst he
        refine W_skip ?_
        refine W_seq ?_
        refine W_region ?_
        refine L_call (.plain rfl) rfl rfl (r_call Tryd.func8 rfl rfl rfl (by rfl)) (awake04_walk w0.heap.size _ (hG _ Ch.au) (hF _ Ch.au) (by omega)) ?_
        rintro v40 w7 ⟨rfl, c7⟩
        have hz7 := c7.size
        refine L_r (r_mb rfl) ?_
        refine L_as (v := .bool _) (v' := .bool true) 41 rfl (congrArg Value.bool (by rfl)) ?_
        refine L_g (r_mi rfl) ?_
        refine L_g (r_eql rfl rfl) ?_
        refine L_as (v := .bool _) (v' := .bool true) 43 rfl (dec_t (by rfl)).symm ?_
        refine L_r (r_pt rfl rfl) ?_
        refine L_r (r_mb rfl) ?_
        refine L_g (r_mv) ?_
        refine L_g (r_mv) ?_
        refine L_call (.yes 5 true rfl rfl) rfl rfl (r_call Tryd.func17 rfl rfl rfl (by rfl)) (rsame04_walk _ z _ z _ Sl.au Sl.au (by omega)) ?_
        rintro v48 w8 ⟨bb, rfl, hbb, c8⟩
        have hz8 := c8.size
        refine L_r (r_pt rfl rfl) ?_
        refine L_r (r_ab rfl) ?_
        refine L_nil ?_
        refine W_ret ?_
        refine ret1 (v := .bool _) rfl rfl ?_
        refine ⟨?_, Ch.au⟩
        first
        | rfl
        | exact congrArg Value.bool (hbb.2 rfl)
        | (trace_state; sorry)
end Go.Proofs.YtioonbfinnigpaaDoor

