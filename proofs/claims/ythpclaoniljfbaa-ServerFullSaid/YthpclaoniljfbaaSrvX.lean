/- ServerFull, walked. -/
import Derived.Test.YthpclaoniljfbaaSrvU
namespace Go.Proofs.Ythpclaoniljfbaa
open Go Go.RowKit
set_option linter.unusedVariables false
set_option linter.unusedSimpArgs false
theorem chk_callM {life seq below : Int} (h1 : 0 < life) (h2 : 0 < seq) (h3 : 0 < below ∧ below ≤ seq) : checkC (callM life seq below) = 0 := by
  unfold checkC
  rw [if_neg (by show ¬ 8192 < ({ data := #[] } : ByteArray).size; decide), if_pos]
  refine ⟨by show life ≠ 0; omega, by show seq ≠ 0; omega, .inl ⟨rfl, h3.1, h3.2, ?_, ?_, rfl⟩⟩
  · show nameP ({ data := #[103, 111] } : ByteArray); decide +kernel
  · show ¬ classP ({ data := #[103, 111] } : ByteArray); decide +kernel
/-- The first c that run. -/
def kp (c : Nat) : List (Int × Msg) := (List.range c).map fun (k : Nat) => ((k : Int) + 1, awZ)
def sp1 (c : Nat) : List (Int × Int) := (List.range c).map fun (k : Nat) => (1, (k : Int) + 1)
def rs (c : Nat) : List (Int × Msg) := (List.range c).map fun (k : Nat) => ((k : Int) + 2, awZ)
theorem kp_len (c : Nat) : (kp c).length = c := by simp [kp]
theorem sp_len (c : Nat) : (sp1 c).length = c := by simp [sp1]
theorem rs_len (c : Nat) : (rs c).length = c := by simp [rs]
theorem kp_next (c : Nat) : kp c ++ [((c : Int) + 1, awZ)] = kp (c + 1) := by simp [kp, List.range_succ]
theorem sp_next (c : Nat) : sp1 c ++ [(1, (c : Int) + 1)] = sp1 (c + 1) := by simp [sp1, List.range_succ]
theorem kp_cons (c : Nat) : kp (c + 1) = (1, awZ) :: rs c := by
  unfold kp rs
  rw [List.range_succ_eq_map, List.map_cons, List.map_map]
  congr 1
theorem kp_mem {c : Nat} {p : Int × Msg} (h : p ∈ kp c) : 1 ≤ p.1 ∧ p.1 ≤ c ∧ p.2 = awZ := by
  obtain ⟨k, hk, rfl⟩ := List.mem_map.1 h
  have := List.mem_range.1 hk
  exact ⟨by show (1 : Int) ≤ (k : Int) + 1; omega, by show (k : Int) + 1 ≤ c; omega, rfl⟩
theorem rs_mem {c : Nat} {p : Int × Msg} (h : p ∈ rs c) : 2 ≤ p.1 ∧ p.1 ≤ c + 1 ∧ p.2 = awZ := by
  obtain ⟨k, hk, rfl⟩ := List.mem_map.1 h
  have := List.mem_range.1 hk
  exact ⟨by show (2 : Int) ≤ (k : Int) + 2; omega, by show (k : Int) + 2 ≤ c + 1; omega, rfl⟩
theorem mset_no {L : List (Int × Msg)} {k : Int} {v : Msg} (h : mget L k = none) : mset L k v = L ++ [(k, v)] := by
  unfold mset; rw [h]; exact if_neg (by decide)
/-- As it is when c of n run. -/
def fS (n c : Nat) : Srv := ⟨n, if c = 0 then 0 else 1, 1, kp c, sp1 c⟩
def fT (n : Nat) : Srv := ⟨n + 1, 1, 1, (1, awM) :: rs n, sp1 (n + 1)⟩
def fU (n : Nat) : Srv := ⟨n + 1, 1, 2, rs n ++ [((n : Int) + 2, awZ)], sp1 (n + 2)⟩
abbrev fulM (i : Int) : Msg := ⟨1, 1, i, 0, 0, { data := #[] }, 2, { data := #[102, 117, 108, 108] }⟩
theorem full_pre (n c : Nat) (i : Int) (h : 0 < i) : recv (fS n c) (callM 1 i 1) = recv3 ⟨n, 1, 1, kp c, sp1 c⟩ (callM 1 i 1) := by
  unfold recv
  have hc := chk_callM (life := 1) (seq := i) (below := 1) (by decide) h (by omega)
  rw [if_neg (by rintro (k | k | k); exact k hc; exact k rfl; (have k' : (1 : Int) < (if c = 0 then 0 else 1) := k; split at k' <;> omega))]
  have e1 : recv1 (fS n c) (callM 1 i 1) = ⟨n, 1, 1, kp c, sp1 c⟩ := by
    unfold recv1
    by_cases h0 : c = 0
    · subst h0
      exact (if_pos (show (if (0 : Nat) = 0 then (0 : Int) else 1) < 1 by decide)).trans rfl
    · have e : fS n c = ⟨n, 1, 1, kp c, sp1 c⟩ := by unfold fS; rw [if_neg h0]
      rw [e]
      exact if_neg (show ¬ (1 : Int) < 1 by decide)
  have e2 : recv2 ⟨n, 1, 1, kp c, sp1 c⟩ (callM 1 i 1) = ⟨n, 1, 1, kp c, sp1 c⟩ := if_neg (show ¬ (1 : Int) < 1 by decide)
  rw [e1, e2]
theorem full_step (n c : Nat) (h : c < n) : recv (fS n c) (callM 1 ((c : Int) + 1) 1) = (fS n (c + 1), 1, awZ) := by
  rw [full_pre n c _ (by omega)]
  have hg : mget (kp c) ((c : Int) + 1) = none := mget_none fun p hp => by have := kp_mem hp; omega
  have := recv3_new (S := ⟨n, 1, 1, kp c, sp1 c⟩) (m := callM 1 ((c : Int) + 1) 1) (by show ¬ (c : Int) + 1 < 1; omega) (by show (mget (kp c) ((c : Int) + 1)).isSome = false; rw [hg]; rfl) (by show ¬ (n : Int) ≤ ((kp c).length : Int); rw [kp_len]; omega)
  rw [this]
  show (({ most := n, life := 1, floor := 1, kept := mset (kp c) ((c : Int) + 1) Msg.zero, st := sp1 c ++ [(1, (c : Int) + 1)] } : Srv), (1 : Int), Msg.zero) = _
  rw [mset_no hg, sp_next]
  show (({ most := n, life := 1, floor := 1, kept := kp c ++ [((c : Int) + 1, awZ)], st := sp1 (c + 1) } : Srv), (1 : Int), awZ) = _
  rw [kp_next]
  unfold fS
  rw [if_neg (by omega)]
theorem full_no (n : Nat) (i : Int) (h : n < i) : recv (fS n n) (callM 1 i 1) = (if n = 0 then ⟨n, 1, 1, kp n, sp1 n⟩ else fS n n, 2, fulM i) := by
  rw [full_pre n n _ (by omega)]
  have hg : mget (kp n) i = none := mget_none fun p hp => by have := kp_mem hp; omega
  have := recv3_full (S := ⟨n, 1, 1, kp n, sp1 n⟩) (m := callM 1 i 1) (by show ¬ i < 1; omega) (by show (mget (kp n) i).isSome = false; rw [hg]; rfl) (by show (n : Int) ≤ ((kp n).length : Int); rw [kp_len]; omega)
  rw [this]
  by_cases h0 : n = 0
  · rw [if_pos h0]; rfl
  · rw [if_neg h0]; unfold fS; rw [if_neg h0]; rfl
theorem full_i (n i : Nat) (h1 : 1 ≤ i) (hn : 1 ≤ n) : ∃ k r, recv (fS n (min (i - 1) n)) (callM 1 i 1) = (fS n (min i n), k, r) ∧ (i ≤ n → k = 1) ∧ (n < i → k = 2 ∧ r = fulM i) := by
  by_cases h : i ≤ n
  · refine ⟨1, awZ, ?_, fun _ => rfl, fun h' => by omega⟩
    have := full_step n (i - 1) (by omega)
    rw [show ((i - 1 : Nat) : Int) + 1 = i by omega, show i - 1 + 1 = i by omega] at this
    rw [show min (i - 1) n = i - 1 by omega, show min i n = i by omega]
    exact this
  · refine ⟨2, fulM i, ?_, fun h' => by omega, fun _ => ⟨rfl, rfl⟩⟩
    have := full_no n i (by omega)
    rw [if_neg (by omega)] at this
    rw [show min (i - 1) n = n by omega, show min i n = n by omega]
    exact this
theorem full_fin (n : Nat) : fin (fS (n + 1) (n + 1)) 1 1 0 { data := #[120] } = (fT n, awM, 0) := by
  have hk : (fS (n + 1) (n + 1)).kept = (1, awZ) :: rs n := kp_cons n
  have hg : mget (fS (n + 1) (n + 1)).kept 1 = some Msg.zero := by rw [hk]; simp [mget]; rfl
  have hc : checkC (repM 1 1 0 { data := #[120] }) = 0 := by kernel_rfl
  unfold fin
  rw [if_neg (by rintro (k | k); exact k rfl; exact k hg), if_neg (by rw [hc]; decide)]
  have e : (mset (fS (n + 1) (n + 1)).kept 1 (repM 1 1 0 { data := #[120] })).filter (fun p => !gone2 1 (fS (n + 1) (n + 1)).floor p) = (1, awM) :: rs n := by
    have e3 : mset (fS (n + 1) (n + 1)).kept 1 (repM 1 1 0 { data := #[120] }) = (1, awM) :: rs n := by
      unfold mset; rw [hg]
      refine (if_pos rfl).trans ?_
      rw [hk, List.map_cons]
      have e4 : (rs n).map (fun p => if p.1 = 1 then ((1 : Int), repM 1 1 0 { data := #[120] }) else p) = rs n := by
        refine (List.map_congr_left (g := id) fun p hp => ?_).trans (List.map_id _)
        have := rs_mem hp
        exact if_neg (by omega)
      rw [e4]; rfl
    rw [e3, List.filter_eq_self]
    intro p _
    show (!decide (p.1 = 1 ∧ (1 : Int) < 1)) = true
    rw [decide_eq_false (by omega)]; rfl
  rw [e]
  rfl
theorem mget_T (n : Nat) (i : Int) (h : (n : Int) + 1 < i) : mget ((1, awM) :: rs n) i = none := mget_none fun p hp => by
  rcases List.mem_cons.1 hp with rfl | hp
  · show (1 : Int) ≠ i; omega
  · have := rs_mem hp; omega
theorem full_a (n : Nat) : recv (fT n) (callM 1 ((n : Int) + 2) 1) = (fT n, 2, fulM ((n : Int) + 2)) := by
  unfold recv
  have hc := chk_callM (life := 1) (seq := (n : Int) + 2) (below := 1) (by decide) (by omega) (by omega)
  rw [if_neg (by rintro (k | k | k); exact k hc; exact k rfl; exact absurd (show (1 : Int) < 1 from k) (by decide))]
  have e1 : recv1 (fT n) (callM 1 ((n : Int) + 2) 1) = fT n := if_neg (show ¬ (1 : Int) < 1 by decide)
  have e2 : recv2 (fT n) (callM 1 ((n : Int) + 2) 1) = fT n := if_neg (show ¬ (1 : Int) < 1 by decide)
  rw [e1, e2]
  have hg := mget_T n ((n : Int) + 2) (by omega)
  exact recv3_full (S := fT n) (m := callM 1 ((n : Int) + 2) 1) (by show ¬ (n : Int) + 2 < 1; omega) (by show (mget ((1, awM) :: rs n) ((n : Int) + 2)).isSome = false; rw [hg]; rfl) (by show ((n : Int) + 1) ≤ (((1, awM) :: rs n).length : Int); rw [List.length_cons, rs_len]; omega)
theorem full_b (n : Nat) : recv (fT n) (callM 1 ((n : Int) + 2) 2) = (fU n, 1, awZ) := by
  unfold recv
  have hc := chk_callM (life := 1) (seq := (n : Int) + 2) (below := 2) (by decide) (by omega) (by omega)
  rw [if_neg (by rintro (k | k | k); exact k hc; exact k rfl; exact absurd (show (1 : Int) < 1 from k) (by decide))]
  have e1 : recv1 (fT n) (callM 1 ((n : Int) + 2) 2) = fT n := if_neg (show ¬ (1 : Int) < 1 by decide)
  have e2 : recv2 (fT n) (callM 1 ((n : Int) + 2) 2) = ⟨n + 1, 1, 2, rs n, sp1 (n + 1)⟩ := by
    refine (if_pos (show (1 : Int) < 2 by decide)).trans ?_
    have ef : ((1, awM) :: rs n).filter (fun p => !gone1 2 p) = rs n := by
      rw [List.filter_cons_of_neg (by decide +kernel), List.filter_eq_self]
      intro p hp
      have := rs_mem hp
      show (!decide (p.1 < 2 ∧ p.2 ≠ Msg.zero)) = true
      rw [decide_eq_false (by rintro ⟨_, k⟩; exact k this.2.2)]; rfl
    show ({ most := (n : Int) + 1, life := 1, floor := 2, kept := ((1, awM) :: rs n).filter (fun p => !gone1 2 p), st := sp1 (n + 1) } : Srv) = _
    rw [ef]
  rw [e1, e2]
  have hg : mget (rs n) ((n : Int) + 2) = none := mget_none fun p hp => by have := rs_mem hp; omega
  have := recv3_new (S := ⟨n + 1, 1, 2, rs n, sp1 (n + 1)⟩) (m := callM 1 ((n : Int) + 2) 2) (by show ¬ (n : Int) + 2 < 2; omega) (by show (mget (rs n) ((n : Int) + 2)).isSome = false; rw [hg]; rfl) (by show ¬ ((n : Int) + 1) ≤ ((rs n).length : Int); rw [rs_len]; omega)
  rw [this]
  show (({ most := (n : Int) + 1, life := 1, floor := 2, kept := mset (rs n) ((n : Int) + 2) Msg.zero, st := sp1 (n + 1) ++ [(1, (n : Int) + 2)] } : Srv), (1 : Int), Msg.zero) = _
  rw [mset_no hg]
  have := sp_next (n + 1)
  rw [show (((n + 1 : Nat) : Int) + 1) = (n : Int) + 2 by omega] at this
  rw [this]
  rfl
set_option maxHeartbeats 4000000 in
set_option maxRecDepth 100000 in
theorem ServerFull_walk (a0 a1 : Int) (w0 : World) (y0 : 0 ≤ a0 ∧ a0 ≤ 255) (y1 : 0 ≤ a1 ∧ a1 ≤ 255) : Does Try.prog 7 #[.int .u8 a0, .int .u8 a1] w0 (fun r w' => r = .bool true ∧ Nw w0 w') := by
  obtain ⟨n, hn⟩ : ∃ n : Nat, (n : Int) + 1 = 1 + a0 % 30 := ⟨(a0 % 30).toNat, by omega⟩
  have hn30 : n < 30 := by omega
  refine fn_of (n := 120) (args := [.int .u8 a0, .int .u8 a1]) Try.func7 rfl rfl rfl ?_
  refine W_seq ?_
  refine W_region ?_
  refine L_run (.plain rfl) rfl rfl (r_assign (v := .bool _) rfl) ?_
  refine L_nil ?_
  refine W_seq ?_
  refine W_region ?_
  refine L_run (.plain rfl) rfl rfl (r_move (v := .int _ _) rfl) ?_
  refine L_run (.plain rfl) rfl rfl (r_conv Try.underlying5 Try.underlying28 rfl (by first | exact wr_u64 (by omega) | rfl)) ?_
  refine L_run (.plain rfl) rfl rfl (r_remn rfl rfl (by omega) (by omega)) ?_
  refine L_run (.plain rfl) rfl rfl (r_add rfl rfl (by first | exact wr_u64 (by omega) | rfl)) ?_
  refine L_run (.plain rfl) rfl rfl (r_assign (v := .int _ _) rfl) ?_
  refine L_nil ?_
  refine W_seq ?_
  refine W_region ?_
  refine L_run (.plain rfl) rfl rfl (r_move (v := .int _ _) rfl) ?_
  refine L_run (.plain rfl) rfl rfl (r_conv Try.underlying28 Try.underlying3 rfl (by first | exact wr_i64 (by omega) | rfl)) ?_
  refine L_call (.plain rfl) rfl rfl (r_call Try.func8 rfl rfl rfl (by rfl)) (new_walk (1 + a0 % 30) _ (by omega)) ?_
  rintro v24 w1 ⟨b, bm, rfl, hS0, c1⟩
  have hz1 := c1.size
  rw [← hn] at hS0
  have hA0 : SrvAt w0.heap.size w1 b bm _ (fS (n + 1) 0) := hS0.base' (by omega)
  refine L_run (.plain rfl) rfl rfl (r_move (by conv => lhs; whnf)) ?_
  refine L_run (.plain rfl) rfl rfl (r_ext2_0 rfl) ?_
  refine L_run (.plain rfl) rfl rfl (r_ext2_1 rfl) ?_
  refine L_run (.plain rfl) rfl rfl (r_assign (v := .pointer _) rfl) ?_
  refine L_run (.plain rfl) rfl rfl (r_assign (v := .int _ _) rfl) ?_
  refine L_nil ?_
  refine W_seq ?_
  refine W_seq ?_
  refine W_region ?_
  refine L_call (.plain rfl) rfl rfl (r_call Try.func9 rfl rfl rfl (by rfl)) (awake_walk _) ?_
  rintro v27 w2 ⟨rfl, c2⟩
  have hz2 := c2.size
  refine L_run (.plain rfl) rfl rfl (r_not rfl) ?_
  refine L_run (.plain rfl) rfl rfl (r_move (v := .bool _) rfl) ?_
  refine L_as (v := .bool _) (v' := .bool false) 29 rfl (congrArg Value.bool (by rfl)) ?_
  refine L_run (.yes 2 false rfl rfl) rfl rfl (r_move (v := .int _ _) rfl) ?_
  refine L_run (.yes 2 false rfl rfl) rfl rfl (r_neq rfl rfl) ?_
  refine L_run (.plain rfl) rfl rfl (r_pick_f (v := .bool _) rfl rfl) ?_
  refine L_run (.plain rfl) rfl rfl (r_move (v := .bool _) rfl) ?_
  refine L_as (v := .bool _) (v' := .bool false) 33 rfl (dec_f (by simp)).symm ?_
  refine L_run (.yes 6 false rfl rfl) rfl rfl (r_move (v := .pointer _) rfl) ?_
  refine L_run (.yes 6 false rfl rfl) rfl rfl (r_eqpnil Try.underlying23 rfl rfl) ?_
  refine L_run (.plain rfl) rfl rfl (r_pick_f (v := .bool _) rfl rfl) ?_
  refine L_as (v := .bool _) (v' := .bool false) 36 rfl (congrArg Value.bool (by rfl)) ?_
  refine L_nil ?_
  refine W_false rfl ?_
  refine W_skip ?_
  refine W_seq ?_
  refine W_seq ?_
  refine W_region ?_
  refine L_run (.plain rfl) rfl rfl (r_assign (v := .int _ _) rfl) ?_
  refine L_nil ?_
  refine W_block ?_
  refine W_loopF [1, 5, 6] (fun m f W => ∃ (i : Nat) (vs : Value), f 8 = .int .u64 i ∧ (1 ≤ i ∧ (i : Int) ≤ 1 + a0 % 30 + a1 % 10 + 1 ∧ SrvAt w0.heap.size W b bm vs (fS (n + 1) (min (i - 1) (n + 1))) ∧ Nw w0 W) ∧ m = 100 - i) ?_ ?_
  · refine ⟨_, 1, .slice none 0 0, rfl, ?_, rfl⟩
    exact ⟨by omega, by omega, hA0.nw (by (repeat (first | exact Ch.refl _ | assumption | (refine Ch.fresh ?_ (by assumption) (by intro i hi he; first | exact he | exact (not_no he).elim | exact Or.inl he | exact Or.inr (Or.inl he) | exact Or.inr (Or.inr he) | (exfalso; have he2 : _ = some i := he; have := own_base (by assumption) he2; omega) | (exfalso; have he2 : i = _ := he; omega) | (exfalso; have he2 : _ = some i := he; have := ow_base (by assumption) he2; omega) | (exfalso; have := he.1; omega)))))), by (repeat (first | exact Ch.refl _ | assumption | (refine Ch.fresh ?_ (by assumption) (by intro i hi he; first | exact he | exact (not_no he).elim | exact Or.inl he | exact Or.inr (Or.inl he) | exact Or.inr (Or.inr he) | (exfalso; have he2 : _ = some i := he; have := own_base (by assumption) he2; omega) | (exfalso; have he2 : i = _ := he; omega) | (exfalso; have he2 : _ = some i := he; have := ow_base (by assumption) he2; omega) | (exfalso; have := he.1; omega)))))⟩
  rintro m0 g0 w3 ⟨i, vs, hf8, hR0, rfl⟩
  refine W_as 8 hf8 rfl ?_
  clear hf8
  obtain ⟨hi1, hi2, hA, hnw⟩ := hR0
  have hz := hnw.size
  refine W_seq ?_
  refine W_seq ?_
  refine W_region ?_
  refine L_run (.plain rfl) rfl rfl (r_move (v := .int _ _) rfl) ?_
  refine L_run (.plain rfl) rfl rfl (r_move (v := .int _ _) rfl) ?_
  refine L_run (.plain rfl) rfl rfl (r_move (v := .int _ _) rfl) ?_
  refine L_run (.plain rfl) rfl rfl (r_conv Try.underlying5 Try.underlying28 rfl (by first | exact wr_u64 (by omega) | rfl)) ?_
  refine L_run (.plain rfl) rfl rfl (r_remn rfl rfl (by omega) (by omega)) ?_
  refine L_run (.plain rfl) rfl rfl (r_add rfl rfl (by first | exact wr_u64 (by omega) | rfl)) ?_
  refine L_run (.plain rfl) rfl rfl (r_leq rfl rfl) ?_
  refine L_nil ?_
  refine W_if rfl (fun h43 => ?_) (fun h43 => ?_)
  · refine W_skip ?_
    refine W_seq ?_
    refine W_block ?_
    refine W_seq ?_
    obtain ⟨k, r, hr, hk1, hk2⟩ := full_i (n + 1) i hi1 (by omega)
    refine W_region ?_
    refine L_run (.plain rfl) rfl rfl (r_move (v := .pointer _) rfl) ?_
    refine L_run (.plain rfl) rfl rfl (r_move (v := .int _ _) rfl) ?_
    refine L_call (.plain rfl) rfl rfl (r_call Try.func20 rfl rfl rfl (by rfl)) (call_walk 1 i 1 _) ?_
    rintro v49 w4 ⟨rfl, c4⟩
    have hz4 := c4.size
    refine L_call (.plain rfl) rfl rfl (r_call Try.func12 rfl rfl rfl (by rfl)) (recv_use w0.heap.size b bm _ _ hr (hA.nw (by (repeat (first | exact Ch.refl _ | assumption | (refine Ch.fresh ?_ (by assumption) (by intro i hi he; first | exact he | exact (not_no he).elim | exact Or.inl he | exact Or.inr (Or.inl he) | exact Or.inr (Or.inr he) | (exfalso; have he2 : _ = some i := he; have := own_base (by assumption) he2; omega) | (exfalso; have he2 : i = _ := he; omega) | (exfalso; have he2 : _ = some i := he; have := ow_base (by assumption) he2; omega) | (exfalso; have := he.1; omega))))))) (by show (kp _).length ≤ _; rw [kp_len]; omega) (by show (sp1 _).length ≤ _; rw [sp_len]; omega) (by omega)) ?_
    rintro v50 w5 ⟨vs1, rfl, hA1, c5⟩
    have hz5 := c5.size
    refine L_run (.plain rfl) rfl rfl (r_move (by conv => lhs; whnf)) ?_
    refine L_run (.plain rfl) rfl rfl (r_ext2_0 rfl) ?_
    refine L_run (.plain rfl) rfl rfl (r_ext2_1 rfl) ?_
    refine L_new (.plain rfl) rfl rfl (r_alloca rfl) (fun w6 b10 hb10 eb6 hs6 c6 => ?_)
    refine L_run (.plain rfl) rfl rfl (r_assign (v := .int _ _) rfl) ?_
    refine L_storerow (.plain rfl) rfl rfl (by (exact Bk.to (by assumption) (by (repeat (first | exact Sm.refl _ _ | (refine Sm.stepT (by assumption) (by intro hlt hsm; first | exact not_no | (intro he; have he2 : _ = some _ := he; have := own_base (by assumption) he2; omega) | (intro he; have he2 : _ = _ := he; omega) | (intro he; have he2 : _ = some _ := he; have := ow_base (by assumption) he2; omega) | (intro he; have := he.1; omega) | exact bk_not (by assumption) hsm rfl | exact mp_not (by assumption) hsm | exact bkm_not (by assumption) hsm rfl | (refine ownm_not ?_ hi hsm rfl <;> assumption) | (refine owm_not ?_ hi hsm rfl <;> assumption) | (refine own_not ?_ hi hsm rfl <;> assumption) | (refine ow_not ?_ hi hsm rfl <;> assumption) | (intro he; have he2 : _ = some _ := he; have := Ow.lt (by assumption) he2; omega) | (intro he; have he2 : _ = some _ := he; have := Ow.lt (by assumption) he2; have := own_base (by assumption) hi; omega) | (intro he; have he2 : _ = some _ := he; have := Ow.lt how he2; first | omega | (have := own_base (by assumption) hi; omega)) | (intro he; have he2 : _ = _ := he; have := Ow.lt how hi; omega) | (intro he; have he2 : _ = _ := he; have := own_base (by assumption) hi; omega) | (intro he; have he2 : _ = _ := he; have := ow_base (by assumption) hi; omega) | (intro he; have he2 : _ = _ := he; rw [he2] at hi; exact absurd hi (by assumption)) | (intro he; have he2 : _ = some _ := he; have h3 := own_lt (by assumption) he2; first | omega | (have h4 : _ = some _ := hi; simp [Value.ownBlock] at h4; omega)) | (intro he; have he2 : _ = some _ := he; have h3 := ow_base (by assumption) he2; have h4 : _ = some _ := hi; simp [Value.ownBlock] at h4; omega) | (intro he; have he2 : _ = some _ := he; exact absurd he2 (hsep _ hi)) | (intro he; first | exact absurd he (by assumption) | exact absurd he.symm (by assumption))) ?_)))))) (by first | rfl | (simp; done) | assumption) (by first | rfl | assumption) (by first | rfl | (simp [Value.oneCell']; done) | assumption) (fun w7 hb7 hs7 c7 => ?_)
    refine L_nil ?_
    refine W_seq ?_
    refine W_region ?_
    refine L_run (.plain rfl) rfl rfl (r_move (v := .int _ _) rfl) ?_
    refine L_run (.plain rfl) rfl rfl (r_move (v := .int _ _) rfl) ?_
    refine L_run (.plain rfl) rfl rfl (r_leq rfl rfl) ?_
    refine L_run (.plain rfl) rfl rfl (r_move (v := .bool _) rfl) ?_
    refine L_case (d := 56) rfl (fun h56 => ?_) (fun h56 => ?_)
    · refine L_run (.yes 3 true rfl rfl) rfl rfl (r_move (v := .int _ _) rfl) ?_
      refine L_run (.yes 3 true rfl rfl) rfl rfl (r_neq rfl rfl) ?_
      refine L_run (.plain rfl) rfl rfl (r_pick_t (v := .bool _) rfl rfl) ?_
      refine L_run (.plain rfl) rfl rfl (r_move (v := .bool _) rfl) ?_
      refine L_case (d := 60) rfl (fun h60 => ?_) (fun h60 => ?_)
      · (have := hk1 (by omega); omega)
      · refine L_run (.yes 7 false rfl rfl) rfl rfl (r_move (v := .int _ _) rfl) ?_
        refine L_run (.yes 7 false rfl rfl) rfl rfl (r_move (v := .int _ _) rfl) ?_
        refine L_run (.yes 7 false rfl rfl) rfl rfl (r_gtr rfl rfl) ?_
        refine L_run (.yes 7 false rfl rfl) rfl rfl (r_move (v := .bool _) rfl) ?_
        refine L_case (d := 64) rfl (fun h64 => ?_) (fun h64 => ?_)
        · refine L_run (.yes 11 true rfl rfl) rfl rfl (r_move (v := .int _ _) rfl) ?_
          refine L_run (.yes 11 true rfl rfl) rfl rfl (r_neq rfl rfl) ?_
          refine L_run (.yes 11 true rfl rfl) rfl rfl (r_move (v := .bool _) rfl) ?_
          refine L_case (d := 67) rfl (fun h67 => ?_) (fun h67 => ?_)
          · (have := (hk2 (by omega)).1; omega)
          · refine L_run (.yes 14 false rfl rfl) rfl rfl (r_loadrow Try.underlying33 rfl rfl (by (exact Bk.to (by assumption) (by (repeat (first | exact Sm.refl _ _ | (refine Sm.stepT (by assumption) (by intro hlt hsm; first | exact not_no | (intro he; have he2 : _ = some _ := he; have := own_base (by assumption) he2; omega) | (intro he; have he2 : _ = _ := he; omega) | (intro he; have he2 : _ = some _ := he; have := ow_base (by assumption) he2; omega) | (intro he; have := he.1; omega) | exact bk_not (by assumption) hsm rfl | exact mp_not (by assumption) hsm | exact bkm_not (by assumption) hsm rfl | (refine ownm_not ?_ hi hsm rfl <;> assumption) | (refine owm_not ?_ hi hsm rfl <;> assumption) | (refine own_not ?_ hi hsm rfl <;> assumption) | (refine ow_not ?_ hi hsm rfl <;> assumption) | (intro he; have he2 : _ = some _ := he; have := Ow.lt (by assumption) he2; omega) | (intro he; have he2 : _ = some _ := he; have := Ow.lt (by assumption) he2; have := own_base (by assumption) hi; omega) | (intro he; have he2 : _ = some _ := he; have := Ow.lt how he2; first | omega | (have := own_base (by assumption) hi; omega)) | (intro he; have he2 : _ = _ := he; have := Ow.lt how hi; omega) | (intro he; have he2 : _ = _ := he; have := own_base (by assumption) hi; omega) | (intro he; have he2 : _ = _ := he; have := ow_base (by assumption) hi; omega) | (intro he; have he2 : _ = _ := he; rw [he2] at hi; exact absurd hi (by assumption)) | (intro he; have he2 : _ = some _ := he; have h3 := own_lt (by assumption) he2; first | omega | (have h4 : _ = some _ := hi; simp [Value.ownBlock] at h4; omega)) | (intro he; have he2 : _ = some _ := he; have h3 := ow_base (by assumption) he2; have h4 : _ = some _ := hi; simp [Value.ownBlock] at h4; omega) | (intro he; have he2 : _ = some _ := he; exact absurd he2 (hsep _ hi)) | (intro he; first | exact absurd he (by assumption) | exact absurd he.symm (by assumption))) ?_)))))) (by first | rfl | assumption)) ?_
            refine L_run (.yes 14 false rfl rfl) rfl rfl (r_move (v := .int _ _) rfl) ?_
            refine L_run (.yes 14 false rfl rfl) rfl rfl (r_build1 (pl := [(0, 1), (1, 1), (2, 1), (3, 1), (4, 1), (5, 1), (6, 1), (7, 1)]) (vs := [(0, .int _ _), (1, .int _ _), (2, .int _ _), (6, .int _ _), (7, .string _)]) (cells := [_, _, _, _, _, _, _, _]) Try.underlying33 rfl rfl (by rfl) rfl (by rfl)) ?_
            refine L_run (.yes 14 false rfl rfl) rfl rfl (r_neqR (xs := #[.int _ _, .int _ _, .int _ _, .int _ _, .int _ _, .string _, .int _ _, .string _]) (ys := #[.int _ _, .int _ _, .int _ _, .int _ _, .int _ _, .string _, .int _ _, .string _]) rfl rfl (by kernel_rfl) (eqMsg _ _ _ _ _ _ _ _ _ _ _ _ _ _ _ _ _)) ?_
            refine L_run (.yes 11 true rfl rfl) rfl rfl (r_pick_f (v := .bool _) rfl rfl) ?_
            refine L_run (.yes 7 false rfl rfl) rfl rfl (r_pick_t (v := .bool _) rfl rfl) ?_
            refine L_run (.plain rfl) rfl rfl (r_pick_f (v := .bool _) rfl rfl) ?_
            refine L_nil ?_
            refine W_if rfl (fun h74 => ?_) (fun h74 => ?_)
            · first | omega | (refine absurd ?_ h74; rw [(hk2 (by omega)).2]; exact ⟨rfl, rfl, rfl, rfl, rfl, rfl, rfl, rfl⟩)
            · refine W_skip ?_
              refine W_region ?_
              refine L_run (.plain rfl) rfl rfl (r_move (v := .int _ _) rfl) ?_
              refine L_run (.plain rfl) rfl rfl (r_add rfl rfl (by first | exact wr_u64 (by omega) | rfl)) ?_
              refine L_run (.plain rfl) rfl rfl (r_assign (v := .int _ _) rfl) ?_
              refine L_nil ?_
              refine ⟨⟨rfl, rfl, rfl, trivial⟩, _, ?_, i + 1, vs1, rfl, ?_, rfl⟩
              · omega
              exact ⟨by omega, by omega, by rw [show i + 1 - 1 = i by omega]; exact hA1.nw (by (repeat (first | exact Ch.refl _ | assumption | (refine Ch.fresh ?_ (by assumption) (by intro i hi he; first | exact he | exact (not_no he).elim | exact Or.inl he | exact Or.inr (Or.inl he) | exact Or.inr (Or.inr he) | (exfalso; have he2 : _ = some i := he; have := own_base (by assumption) he2; omega) | (exfalso; have he2 : i = _ := he; omega) | (exfalso; have he2 : _ = some i := he; have := ow_base (by assumption) he2; omega) | (exfalso; have := he.1; omega)))))), by (repeat (first | exact Ch.refl _ | assumption | (refine Ch.fresh ?_ (by assumption) (by intro i hi he; first | exact he | exact (not_no he).elim | exact Or.inl he | exact Or.inr (Or.inl he) | exact Or.inr (Or.inr he) | (exfalso; have he2 : _ = some i := he; have := own_base (by assumption) he2; omega) | (exfalso; have he2 : i = _ := he; omega) | (exfalso; have he2 : _ = some i := he; have := ow_base (by assumption) he2; omega) | (exfalso; have := he.1; omega)))))⟩
        · refine L_pass rfl rfl rfl rfl rfl ?_
          refine L_pass rfl rfl rfl rfl rfl ?_
          refine L_pass rfl rfl rfl rfl rfl ?_
          refine L_passu rfl rfl rfl rfl ?_
          refine L_passu rfl rfl rfl rfl ?_
          refine L_passu rfl rfl rfl rfl ?_
          refine L_passu rfl rfl rfl rfl ?_
          refine L_pass rfl rfl rfl rfl rfl ?_
          refine L_run (.yes 7 false rfl rfl) rfl rfl (r_pick_f (v := .bool _) rfl rfl) ?_
          refine L_run (.plain rfl) rfl rfl (r_pick_f (v := .bool _) rfl rfl) ?_
          refine L_nil ?_
          refine W_false rfl ?_
          refine W_skip ?_
          refine W_region ?_
          refine L_run (.plain rfl) rfl rfl (r_move (v := .int _ _) rfl) ?_
          refine L_run (.plain rfl) rfl rfl (r_add rfl rfl (by first | exact wr_u64 (by omega) | rfl)) ?_
          refine L_run (.plain rfl) rfl rfl (r_assign (v := .int _ _) rfl) ?_
          refine L_nil ?_
          refine ⟨⟨rfl, rfl, rfl, trivial⟩, _, ?_, i + 1, vs1, rfl, ?_, rfl⟩
          · omega
          exact ⟨by omega, by omega, by rw [show i + 1 - 1 = i by omega]; exact hA1.nw (by (repeat (first | exact Ch.refl _ | assumption | (refine Ch.fresh ?_ (by assumption) (by intro i hi he; first | exact he | exact (not_no he).elim | exact Or.inl he | exact Or.inr (Or.inl he) | exact Or.inr (Or.inr he) | (exfalso; have he2 : _ = some i := he; have := own_base (by assumption) he2; omega) | (exfalso; have he2 : i = _ := he; omega) | (exfalso; have he2 : _ = some i := he; have := ow_base (by assumption) he2; omega) | (exfalso; have := he.1; omega)))))), by (repeat (first | exact Ch.refl _ | assumption | (refine Ch.fresh ?_ (by assumption) (by intro i hi he; first | exact he | exact (not_no he).elim | exact Or.inl he | exact Or.inr (Or.inl he) | exact Or.inr (Or.inr he) | (exfalso; have he2 : _ = some i := he; have := own_base (by assumption) he2; omega) | (exfalso; have he2 : i = _ := he; omega) | (exfalso; have he2 : _ = some i := he; have := ow_base (by assumption) he2; omega) | (exfalso; have := he.1; omega)))))⟩
    · refine L_pass rfl rfl rfl rfl rfl ?_
      refine L_pass rfl rfl rfl rfl rfl ?_
      refine L_run (.plain rfl) rfl rfl (r_pick_f (v := .bool _) rfl rfl) ?_
      refine L_run (.plain rfl) rfl rfl (r_move (v := .bool _) rfl) ?_
      refine L_run (.yes 7 false rfl rfl) rfl rfl (r_move (v := .int _ _) rfl) ?_
      refine L_run (.yes 7 false rfl rfl) rfl rfl (r_move (v := .int _ _) rfl) ?_
      refine L_run (.yes 7 false rfl rfl) rfl rfl (r_gtr rfl rfl) ?_
      refine L_run (.yes 7 false rfl rfl) rfl rfl (r_move (v := .bool _) rfl) ?_
      refine L_case (d := 64) rfl (fun h64 => ?_) (fun h64 => ?_)
      · refine L_run (.yes 11 true rfl rfl) rfl rfl (r_move (v := .int _ _) rfl) ?_
        refine L_run (.yes 11 true rfl rfl) rfl rfl (r_neq rfl rfl) ?_
        refine L_run (.yes 11 true rfl rfl) rfl rfl (r_move (v := .bool _) rfl) ?_
        refine L_case (d := 67) rfl (fun h67 => ?_) (fun h67 => ?_)
        · (have := (hk2 (by omega)).1; omega)
        · refine L_run (.yes 14 false rfl rfl) rfl rfl (r_loadrow Try.underlying33 rfl rfl (by (exact Bk.to (by assumption) (by (repeat (first | exact Sm.refl _ _ | (refine Sm.stepT (by assumption) (by intro hlt hsm; first | exact not_no | (intro he; have he2 : _ = some _ := he; have := own_base (by assumption) he2; omega) | (intro he; have he2 : _ = _ := he; omega) | (intro he; have he2 : _ = some _ := he; have := ow_base (by assumption) he2; omega) | (intro he; have := he.1; omega) | exact bk_not (by assumption) hsm rfl | exact mp_not (by assumption) hsm | exact bkm_not (by assumption) hsm rfl | (refine ownm_not ?_ hi hsm rfl <;> assumption) | (refine owm_not ?_ hi hsm rfl <;> assumption) | (refine own_not ?_ hi hsm rfl <;> assumption) | (refine ow_not ?_ hi hsm rfl <;> assumption) | (intro he; have he2 : _ = some _ := he; have := Ow.lt (by assumption) he2; omega) | (intro he; have he2 : _ = some _ := he; have := Ow.lt (by assumption) he2; have := own_base (by assumption) hi; omega) | (intro he; have he2 : _ = some _ := he; have := Ow.lt how he2; first | omega | (have := own_base (by assumption) hi; omega)) | (intro he; have he2 : _ = _ := he; have := Ow.lt how hi; omega) | (intro he; have he2 : _ = _ := he; have := own_base (by assumption) hi; omega) | (intro he; have he2 : _ = _ := he; have := ow_base (by assumption) hi; omega) | (intro he; have he2 : _ = _ := he; rw [he2] at hi; exact absurd hi (by assumption)) | (intro he; have he2 : _ = some _ := he; have h3 := own_lt (by assumption) he2; first | omega | (have h4 : _ = some _ := hi; simp [Value.ownBlock] at h4; omega)) | (intro he; have he2 : _ = some _ := he; have h3 := ow_base (by assumption) he2; have h4 : _ = some _ := hi; simp [Value.ownBlock] at h4; omega) | (intro he; have he2 : _ = some _ := he; exact absurd he2 (hsep _ hi)) | (intro he; first | exact absurd he (by assumption) | exact absurd he.symm (by assumption))) ?_)))))) (by first | rfl | assumption)) ?_
          refine L_run (.yes 14 false rfl rfl) rfl rfl (r_move (v := .int _ _) rfl) ?_
          refine L_run (.yes 14 false rfl rfl) rfl rfl (r_build1 (pl := [(0, 1), (1, 1), (2, 1), (3, 1), (4, 1), (5, 1), (6, 1), (7, 1)]) (vs := [(0, .int _ _), (1, .int _ _), (2, .int _ _), (6, .int _ _), (7, .string _)]) (cells := [_, _, _, _, _, _, _, _]) Try.underlying33 rfl rfl (by rfl) rfl (by rfl)) ?_
          refine L_run (.yes 14 false rfl rfl) rfl rfl (r_neqR (xs := #[.int _ _, .int _ _, .int _ _, .int _ _, .int _ _, .string _, .int _ _, .string _]) (ys := #[.int _ _, .int _ _, .int _ _, .int _ _, .int _ _, .string _, .int _ _, .string _]) rfl rfl (by kernel_rfl) (eqMsg _ _ _ _ _ _ _ _ _ _ _ _ _ _ _ _ _)) ?_
          refine L_run (.yes 11 true rfl rfl) rfl rfl (r_pick_f (v := .bool _) rfl rfl) ?_
          refine L_run (.yes 7 false rfl rfl) rfl rfl (r_pick_t (v := .bool _) rfl rfl) ?_
          refine L_run (.plain rfl) rfl rfl (r_pick_f (v := .bool _) rfl rfl) ?_
          refine L_nil ?_
          refine W_if rfl (fun h74 => ?_) (fun h74 => ?_)
          · first | omega | (refine absurd ?_ h74; rw [(hk2 (by omega)).2]; exact ⟨rfl, rfl, rfl, rfl, rfl, rfl, rfl, rfl⟩)
          · refine W_skip ?_
            refine W_region ?_
            refine L_run (.plain rfl) rfl rfl (r_move (v := .int _ _) rfl) ?_
            refine L_run (.plain rfl) rfl rfl (r_add rfl rfl (by first | exact wr_u64 (by omega) | rfl)) ?_
            refine L_run (.plain rfl) rfl rfl (r_assign (v := .int _ _) rfl) ?_
            refine L_nil ?_
            refine ⟨⟨rfl, rfl, rfl, trivial⟩, _, ?_, i + 1, vs1, rfl, ?_, rfl⟩
            · omega
            exact ⟨by omega, by omega, by rw [show i + 1 - 1 = i by omega]; exact hA1.nw (by (repeat (first | exact Ch.refl _ | assumption | (refine Ch.fresh ?_ (by assumption) (by intro i hi he; first | exact he | exact (not_no he).elim | exact Or.inl he | exact Or.inr (Or.inl he) | exact Or.inr (Or.inr he) | (exfalso; have he2 : _ = some i := he; have := own_base (by assumption) he2; omega) | (exfalso; have he2 : i = _ := he; omega) | (exfalso; have he2 : _ = some i := he; have := ow_base (by assumption) he2; omega) | (exfalso; have := he.1; omega)))))), by (repeat (first | exact Ch.refl _ | assumption | (refine Ch.fresh ?_ (by assumption) (by intro i hi he; first | exact he | exact (not_no he).elim | exact Or.inl he | exact Or.inr (Or.inl he) | exact Or.inr (Or.inr he) | (exfalso; have he2 : _ = some i := he; have := own_base (by assumption) he2; omega) | (exfalso; have he2 : i = _ := he; omega) | (exfalso; have he2 : _ = some i := he; have := ow_base (by assumption) he2; omega) | (exfalso; have := he.1; omega)))))⟩
      · refine L_pass rfl rfl rfl rfl rfl ?_
        refine L_pass rfl rfl rfl rfl rfl ?_
        refine L_pass rfl rfl rfl rfl rfl ?_
        refine L_passu rfl rfl rfl rfl ?_
        refine L_passu rfl rfl rfl rfl ?_
        refine L_passu rfl rfl rfl rfl ?_
        refine L_passu rfl rfl rfl rfl ?_
        refine L_pass rfl rfl rfl rfl rfl ?_
        refine L_run (.yes 7 false rfl rfl) rfl rfl (r_pick_f (v := .bool _) rfl rfl) ?_
        refine L_run (.plain rfl) rfl rfl (r_pick_f (v := .bool _) rfl rfl) ?_
        refine L_nil ?_
        refine W_false rfl ?_
        refine W_skip ?_
        refine W_region ?_
        refine L_run (.plain rfl) rfl rfl (r_move (v := .int _ _) rfl) ?_
        refine L_run (.plain rfl) rfl rfl (r_add rfl rfl (by first | exact wr_u64 (by omega) | rfl)) ?_
        refine L_run (.plain rfl) rfl rfl (r_assign (v := .int _ _) rfl) ?_
        refine L_nil ?_
        refine ⟨⟨rfl, rfl, rfl, trivial⟩, _, ?_, i + 1, vs1, rfl, ?_, rfl⟩
        · omega
        exact ⟨by omega, by omega, by rw [show i + 1 - 1 = i by omega]; exact hA1.nw (by (repeat (first | exact Ch.refl _ | assumption | (refine Ch.fresh ?_ (by assumption) (by intro i hi he; first | exact he | exact (not_no he).elim | exact Or.inl he | exact Or.inr (Or.inl he) | exact Or.inr (Or.inr he) | (exfalso; have he2 : _ = some i := he; have := own_base (by assumption) he2; omega) | (exfalso; have he2 : i = _ := he; omega) | (exfalso; have he2 : _ = some i := he; have := ow_base (by assumption) he2; omega) | (exfalso; have := he.1; omega)))))), by (repeat (first | exact Ch.refl _ | assumption | (refine Ch.fresh ?_ (by assumption) (by intro i hi he; first | exact he | exact (not_no he).elim | exact Or.inl he | exact Or.inr (Or.inl he) | exact Or.inr (Or.inr he) | (exfalso; have he2 : _ = some i := he; have := own_base (by assumption) he2; omega) | (exfalso; have he2 : i = _ := he; omega) | (exfalso; have he2 : _ = some i := he; have := ow_base (by assumption) he2; omega) | (exfalso; have := he.1; omega)))))⟩
  · refine W_exit ?_
    repeat (first | refine blk_hit ?_ | refine blk_miss rfl ?_)
    refine W_seq ?_
    refine W_seq ?_
    rw [show min (i - 1) (n + 1) = n + 1 by omega] at hA
    refine W_region ?_
    refine L_run (.plain rfl) rfl rfl (r_move (v := .pointer _) rfl) ?_
    refine L_call (.plain rfl) rfl rfl (r_call Try.func14 rfl rfl rfl (by rfl)) (fin_use w0.heap.size b bm _ _ (full_fin n) (hA.nw (by (repeat (first | exact Ch.refl _ | assumption | (refine Ch.fresh ?_ (by assumption) (by intro i hi he; first | exact he | exact (not_no he).elim | exact Or.inl he | exact Or.inr (Or.inl he) | exact Or.inr (Or.inr he) | (exfalso; have he2 : _ = some i := he; have := own_base (by assumption) he2; omega) | (exfalso; have he2 : i = _ := he; omega) | (exfalso; have he2 : _ = some i := he; have := ow_base (by assumption) he2; omega) | (exfalso; have := he.1; omega))))))) (by show (kp _).length ≤ _; rw [kp_len]; omega)) ?_
    rintro v77 w8 ⟨rfl, hB1, c8⟩
    have hz8 := c8.size
    refine L_run (.plain rfl) rfl rfl (r_move (by conv => lhs; whnf)) ?_
    refine L_run (.plain rfl) rfl rfl (r_ext2_0 rfl) ?_
    refine L_run (.plain rfl) rfl rfl (r_ext2_1 rfl) ?_
    refine L_new (.plain rfl) rfl rfl (r_alloca rfl) (fun w9 b11 hb11 eb9 hs9 c9 => ?_)
    refine L_storerow (.plain rfl) rfl rfl (by (exact Bk.to (by assumption) (by (repeat (first | exact Sm.refl _ _ | (refine Sm.stepT (by assumption) (by intro hlt hsm; first | exact not_no | (intro he; have he2 : _ = some _ := he; have := own_base (by assumption) he2; omega) | (intro he; have he2 : _ = _ := he; omega) | (intro he; have he2 : _ = some _ := he; have := ow_base (by assumption) he2; omega) | (intro he; have := he.1; omega) | exact bk_not (by assumption) hsm rfl | exact mp_not (by assumption) hsm | exact bkm_not (by assumption) hsm rfl | (refine ownm_not ?_ hi hsm rfl <;> assumption) | (refine owm_not ?_ hi hsm rfl <;> assumption) | (refine own_not ?_ hi hsm rfl <;> assumption) | (refine ow_not ?_ hi hsm rfl <;> assumption) | (intro he; have he2 : _ = some _ := he; have := Ow.lt (by assumption) he2; omega) | (intro he; have he2 : _ = some _ := he; have := Ow.lt (by assumption) he2; have := own_base (by assumption) hi; omega) | (intro he; have he2 : _ = some _ := he; have := Ow.lt how he2; first | omega | (have := own_base (by assumption) hi; omega)) | (intro he; have he2 : _ = _ := he; have := Ow.lt how hi; omega) | (intro he; have he2 : _ = _ := he; have := own_base (by assumption) hi; omega) | (intro he; have he2 : _ = _ := he; have := ow_base (by assumption) hi; omega) | (intro he; have he2 : _ = _ := he; rw [he2] at hi; exact absurd hi (by assumption)) | (intro he; have he2 : _ = some _ := he; have h3 := own_lt (by assumption) he2; first | omega | (have h4 : _ = some _ := hi; simp [Value.ownBlock] at h4; omega)) | (intro he; have he2 : _ = some _ := he; have h3 := ow_base (by assumption) he2; have h4 : _ = some _ := hi; simp [Value.ownBlock] at h4; omega) | (intro he; have he2 : _ = some _ := he; exact absurd he2 (hsep _ hi)) | (intro he; first | exact absurd he (by assumption) | exact absurd he.symm (by assumption))) ?_)))))) (by first | rfl | (simp; done) | assumption) (by first | rfl | assumption) (by first | rfl | (simp [Value.oneCell']; done) | assumption) (fun w10 hb10 hs10 c10 => ?_)
    refine L_run (.plain rfl) rfl rfl (r_assign (v := .int _ _) rfl) ?_
    refine L_nil ?_
    refine W_seq ?_
    refine W_region ?_
    refine L_run (.plain rfl) rfl rfl (r_move (v := .int _ _) rfl) ?_
    refine L_run (.plain rfl) rfl rfl (r_neq rfl rfl) ?_
    refine L_as (v := .bool _) (v' := .bool false) 81 rfl (dec_f (by decide)).symm ?_
    refine L_nil ?_
    refine W_false rfl ?_
    refine W_skip ?_
    refine W_seq ?_
    refine W_region ?_
    refine L_run (.plain rfl) rfl rfl (r_move (v := .pointer _) rfl) ?_
    refine L_run (.plain rfl) rfl rfl (r_move (v := .int _ _) rfl) ?_
    refine L_run (.plain rfl) rfl rfl (r_add rfl rfl (by first | exact wr_u64 (by omega) | rfl)) ?_
    refine L_call (.plain rfl) rfl rfl (r_call Try.func20 rfl rfl rfl (by rfl)) (call_walk 1 (1 + a0 % 30 + 1) 1 _) ?_
    rintro v86 w11 ⟨rfl, c11⟩
    have hz11 := c11.size
    refine L_call (.plain rfl) rfl rfl (r_call Try.func12 rfl rfl rfl (by rfl)) (recv_use (m := callM 1 (1 + a0 % 30 + 1) 1) (S := fT n) (S' := fT n) (k := 2) (r := fulM ((n : Int) + 2)) w0.heap.size b bm _ _ (by rw [show (1 + a0 % 30 + 1) = (n : Int) + 2 by omega]; exact full_a n) (hB1.nw (by (repeat (first | exact Ch.refl _ | assumption | (refine Ch.fresh ?_ (by assumption) (by intro i hi he; first | exact he | exact (not_no he).elim | exact Or.inl he | exact Or.inr (Or.inl he) | exact Or.inr (Or.inr he) | (exfalso; have he2 : _ = some i := he; have := own_base (by assumption) he2; omega) | (exfalso; have he2 : i = _ := he; omega) | (exfalso; have he2 : _ = some i := he; have := ow_base (by assumption) he2; omega) | (exfalso; have := he.1; omega))))))) (by show (_ :: rs n).length ≤ _; rw [List.length_cons, rs_len]; omega) (by show (sp1 _).length ≤ _; rw [sp_len]; omega) (by omega)) ?_
    rintro v87 w12 ⟨vs2, rfl, hB2, c12⟩
    have hz12 := c12.size
    refine L_run (.plain rfl) rfl rfl (r_move (by conv => lhs; whnf)) ?_
    refine L_run (.plain rfl) rfl rfl (r_ext2_0 rfl) ?_
    refine L_run (.plain rfl) rfl rfl (r_ext2_1 rfl) ?_
    refine L_new (.plain rfl) rfl rfl (r_alloca rfl) (fun w13 b14 hb14 eb13 hs13 c13 => ?_)
    refine L_run (.plain rfl) rfl rfl (r_assign (v := .int _ _) rfl) ?_
    refine L_storerow (.plain rfl) rfl rfl (by (exact Bk.to (by assumption) (by (repeat (first | exact Sm.refl _ _ | (refine Sm.stepT (by assumption) (by intro hlt hsm; first | exact not_no | (intro he; have he2 : _ = some _ := he; have := own_base (by assumption) he2; omega) | (intro he; have he2 : _ = _ := he; omega) | (intro he; have he2 : _ = some _ := he; have := ow_base (by assumption) he2; omega) | (intro he; have := he.1; omega) | exact bk_not (by assumption) hsm rfl | exact mp_not (by assumption) hsm | exact bkm_not (by assumption) hsm rfl | (refine ownm_not ?_ hi hsm rfl <;> assumption) | (refine owm_not ?_ hi hsm rfl <;> assumption) | (refine own_not ?_ hi hsm rfl <;> assumption) | (refine ow_not ?_ hi hsm rfl <;> assumption) | (intro he; have he2 : _ = some _ := he; have := Ow.lt (by assumption) he2; omega) | (intro he; have he2 : _ = some _ := he; have := Ow.lt (by assumption) he2; have := own_base (by assumption) hi; omega) | (intro he; have he2 : _ = some _ := he; have := Ow.lt how he2; first | omega | (have := own_base (by assumption) hi; omega)) | (intro he; have he2 : _ = _ := he; have := Ow.lt how hi; omega) | (intro he; have he2 : _ = _ := he; have := own_base (by assumption) hi; omega) | (intro he; have he2 : _ = _ := he; have := ow_base (by assumption) hi; omega) | (intro he; have he2 : _ = _ := he; rw [he2] at hi; exact absurd hi (by assumption)) | (intro he; have he2 : _ = some _ := he; have h3 := own_lt (by assumption) he2; first | omega | (have h4 : _ = some _ := hi; simp [Value.ownBlock] at h4; omega)) | (intro he; have he2 : _ = some _ := he; have h3 := ow_base (by assumption) he2; have h4 : _ = some _ := hi; simp [Value.ownBlock] at h4; omega) | (intro he; have he2 : _ = some _ := he; exact absurd he2 (hsep _ hi)) | (intro he; first | exact absurd he (by assumption) | exact absurd he.symm (by assumption))) ?_)))))) (by first | rfl | (simp; done) | assumption) (by first | rfl | assumption) (by first | rfl | (simp [Value.oneCell']; done) | assumption) (fun w14 hb14 hs14 c14 => ?_)
    refine L_nil ?_
    refine W_seq ?_
    refine W_region ?_
    refine L_run (.plain rfl) rfl rfl (r_move (v := .pointer _) rfl) ?_
    refine L_run (.plain rfl) rfl rfl (r_move (v := .int _ _) rfl) ?_
    refine L_run (.plain rfl) rfl rfl (r_add rfl rfl (by first | exact wr_u64 (by omega) | rfl)) ?_
    refine L_call (.plain rfl) rfl rfl (r_call Try.func20 rfl rfl rfl (by rfl)) (call_walk 1 (1 + a0 % 30 + 1) 2 _) ?_
    rintro v94 w15 ⟨rfl, c15⟩
    have hz15 := c15.size
    refine L_call (.plain rfl) rfl rfl (r_call Try.func12 rfl rfl rfl (by rfl)) (recv_use (m := callM 1 (1 + a0 % 30 + 1) 2) (S := fT n) (S' := fU n) (k := 1) (r := awZ) w0.heap.size b bm _ _ (by rw [show (1 + a0 % 30 + 1) = (n : Int) + 2 by omega]; exact full_b n) (hB2.nw (by (repeat (first | exact Ch.refl _ | assumption | (refine Ch.fresh ?_ (by assumption) (by intro i hi he; first | exact he | exact (not_no he).elim | exact Or.inl he | exact Or.inr (Or.inl he) | exact Or.inr (Or.inr he) | (exfalso; have he2 : _ = some i := he; have := own_base (by assumption) he2; omega) | (exfalso; have he2 : i = _ := he; omega) | (exfalso; have he2 : _ = some i := he; have := ow_base (by assumption) he2; omega) | (exfalso; have := he.1; omega))))))) (by show (_ :: rs n).length ≤ _; rw [List.length_cons, rs_len]; omega) (by show (sp1 _).length ≤ _; rw [sp_len]; omega) (by omega)) ?_
    rintro v95 w16 ⟨vs3, rfl, hB3, c16⟩
    have hz16 := c16.size
    refine L_run (.plain rfl) rfl rfl (r_move (by conv => lhs; whnf)) ?_
    refine L_run (.plain rfl) rfl rfl (r_ext2_0 rfl) ?_
    refine L_run (.plain rfl) rfl rfl (r_ext2_1 rfl) ?_
    refine L_new (.plain rfl) rfl rfl (r_alloca rfl) (fun w17 b16 hb16 eb17 hs17 c17 => ?_)
    refine L_run (.plain rfl) rfl rfl (r_assign (v := .int _ _) rfl) ?_
    refine L_storerow (.plain rfl) rfl rfl (by (exact Bk.to (by assumption) (by (repeat (first | exact Sm.refl _ _ | (refine Sm.stepT (by assumption) (by intro hlt hsm; first | exact not_no | (intro he; have he2 : _ = some _ := he; have := own_base (by assumption) he2; omega) | (intro he; have he2 : _ = _ := he; omega) | (intro he; have he2 : _ = some _ := he; have := ow_base (by assumption) he2; omega) | (intro he; have := he.1; omega) | exact bk_not (by assumption) hsm rfl | exact mp_not (by assumption) hsm | exact bkm_not (by assumption) hsm rfl | (refine ownm_not ?_ hi hsm rfl <;> assumption) | (refine owm_not ?_ hi hsm rfl <;> assumption) | (refine own_not ?_ hi hsm rfl <;> assumption) | (refine ow_not ?_ hi hsm rfl <;> assumption) | (intro he; have he2 : _ = some _ := he; have := Ow.lt (by assumption) he2; omega) | (intro he; have he2 : _ = some _ := he; have := Ow.lt (by assumption) he2; have := own_base (by assumption) hi; omega) | (intro he; have he2 : _ = some _ := he; have := Ow.lt how he2; first | omega | (have := own_base (by assumption) hi; omega)) | (intro he; have he2 : _ = _ := he; have := Ow.lt how hi; omega) | (intro he; have he2 : _ = _ := he; have := own_base (by assumption) hi; omega) | (intro he; have he2 : _ = _ := he; have := ow_base (by assumption) hi; omega) | (intro he; have he2 : _ = _ := he; rw [he2] at hi; exact absurd hi (by assumption)) | (intro he; have he2 : _ = some _ := he; have h3 := own_lt (by assumption) he2; first | omega | (have h4 : _ = some _ := hi; simp [Value.ownBlock] at h4; omega)) | (intro he; have he2 : _ = some _ := he; have h3 := ow_base (by assumption) he2; have h4 : _ = some _ := hi; simp [Value.ownBlock] at h4; omega) | (intro he; have he2 : _ = some _ := he; exact absurd he2 (hsep _ hi)) | (intro he; first | exact absurd he (by assumption) | exact absurd he.symm (by assumption))) ?_)))))) (by first | rfl | (simp; done) | assumption) (by first | rfl | assumption) (by first | rfl | (simp [Value.oneCell']; done) | assumption) (fun w18 hb18 hs18 c18 => ?_)
    refine L_nil ?_
    refine W_seq ?_
    have hlst : (fU n).st.length = n + 2 := sp_len (n + 2)
    refine W_region ?_
    refine L_run (.plain rfl) rfl rfl (r_move (v := .int _ _) rfl) ?_
    refine L_run (.plain rfl) rfl rfl (r_eql rfl rfl) ?_
    refine L_run (.plain rfl) rfl rfl (r_move (v := .bool _) rfl) ?_
    refine L_as (v := .bool _) (v' := .bool true) 100 rfl (dec_t (by rfl)).symm ?_
    refine L_run (.yes 2 true rfl rfl) rfl rfl (r_move (v := .int _ _) rfl) ?_
    refine L_run (.yes 2 true rfl rfl) rfl rfl (r_eql rfl rfl) ?_
    refine L_run (.plain rfl) rfl rfl (r_pick_t (v := .bool _) rfl rfl) ?_
    refine L_run (.plain rfl) rfl rfl (r_move (v := .bool _) rfl) ?_
    refine L_as (v := .bool _) (v' := .bool true) 104 rfl (dec_t (by rfl)).symm ?_
    refine L_run (.yes 6 true rfl rfl) rfl rfl (r_move (v := .pointer _) rfl) ?_
    refine L_call (.yes 6 true rfl rfl) rfl rfl (r_call Try.func15 rfl rfl rfl (by rfl)) (kept_walk w0.heap.size b bm _ (fU n) _ (hB3.nw (by (repeat (first | exact Ch.refl _ | assumption | (refine Ch.fresh ?_ (by assumption) (by intro i hi he; first | exact he | exact (not_no he).elim | exact Or.inl he | exact Or.inr (Or.inl he) | exact Or.inr (Or.inr he) | (exfalso; have he2 : _ = some i := he; have := own_base (by assumption) he2; omega) | (exfalso; have he2 : i = _ := he; omega) | (exfalso; have he2 : _ = some i := he; have := ow_base (by assumption) he2; omega) | (exfalso; have := he.1; omega)))))))) ?_
    rintro v106 w19 ⟨rfl, rfl⟩
    refine L_run (.yes 6 true rfl rfl) rfl rfl (r_move (v := .int _ _) rfl) ?_
    refine L_run (.yes 6 true rfl rfl) rfl rfl (r_conv Try.underlying28 Try.underlying3 rfl (by first | exact wr_i64 (by omega) | rfl)) ?_
    refine L_run (.yes 6 true rfl rfl) rfl rfl (r_eql rfl rfl) ?_
    refine L_run (.plain rfl) rfl rfl (r_pick_t (v := .bool _) rfl rfl) ?_
    refine L_run (.plain rfl) rfl rfl (r_move (v := .bool _) rfl) ?_
    refine L_as (v := .bool _) (v' := .bool true) 111 rfl (dec_t (by show ((rs n ++ [((n : Int) + 2, awZ)]).length : Int) = _; rw [List.length_append, rs_len, List.length_singleton]; omega)).symm ?_
    refine L_run (.yes 13 true rfl rfl) rfl rfl (r_move (v := .pointer _) rfl) ?_
    refine L_call (.yes 13 true rfl rfl) rfl rfl (r_call Try.func19 rfl rfl rfl (by rfl)) (started_walk w0.heap.size b bm _ (fU n) _ (hB3.nw (by (repeat (first | exact Ch.refl _ | assumption | (refine Ch.fresh ?_ (by assumption) (by intro i hi he; first | exact he | exact (not_no he).elim | exact Or.inl he | exact Or.inr (Or.inl he) | exact Or.inr (Or.inr he) | (exfalso; have he2 : _ = some i := he; have := own_base (by assumption) he2; omega) | (exfalso; have he2 : i = _ := he; omega) | (exfalso; have he2 : _ = some i := he; have := ow_base (by assumption) he2; omega) | (exfalso; have := he.1; omega))))))) (by show (sp1 _).length ≤ _; rw [sp_len]; omega)) ?_
    rintro v113 w20 ⟨v', rfl, hst, c20⟩
    have hz20 := c20.size
    refine L_run (.yes 13 true rfl rfl) rfl rfl (r_lenSl Try.underlying48 (by conv => lhs; whnf) (by (exact Sl.to (by first | assumption | exact Sl.own (by assumption) | exact Mu.sl (by assumption) | exact Ow.sl (by assumption)) (fun i hi => by (repeat (first | exact Sm.refl _ _ | (refine Sm.stepT (by assumption) (by intro hlt hsm; first | exact not_no | (intro he; have he2 : _ = some _ := he; have := own_base (by assumption) he2; omega) | (intro he; have he2 : _ = _ := he; omega) | (intro he; have he2 : _ = some _ := he; have := ow_base (by assumption) he2; omega) | (intro he; have := he.1; omega) | exact bk_not (by assumption) hsm rfl | exact mp_not (by assumption) hsm | exact bkm_not (by assumption) hsm rfl | (refine ownm_not ?_ hi hsm rfl <;> assumption) | (refine owm_not ?_ hi hsm rfl <;> assumption) | (refine own_not ?_ hi hsm rfl <;> assumption) | (refine ow_not ?_ hi hsm rfl <;> assumption) | (intro he; have he2 : _ = some _ := he; have := Ow.lt (by assumption) he2; omega) | (intro he; have he2 : _ = some _ := he; have := Ow.lt (by assumption) he2; have := own_base (by assumption) hi; omega) | (intro he; have he2 : _ = some _ := he; have := Ow.lt how he2; first | omega | (have := own_base (by assumption) hi; omega)) | (intro he; have he2 : _ = _ := he; have := Ow.lt how hi; omega) | (intro he; have he2 : _ = _ := he; have := own_base (by assumption) hi; omega) | (intro he; have he2 : _ = _ := he; have := ow_base (by assumption) hi; omega) | (intro he; have he2 : _ = _ := he; rw [he2] at hi; exact absurd hi (by assumption)) | (intro he; have he2 : _ = some _ := he; have h3 := own_lt (by assumption) he2; first | omega | (have h4 : _ = some _ := hi; simp [Value.ownBlock] at h4; omega)) | (intro he; have he2 : _ = some _ := he; have h3 := ow_base (by assumption) he2; have h4 : _ = some _ := hi; simp [Value.ownBlock] at h4; omega) | (intro he; have he2 : _ = some _ := he; exact absurd he2 (hsep _ hi)) | (intro he; first | exact absurd he (by assumption) | exact absurd he.symm (by assumption))) ?_))))))) ?_
    refine L_run (.yes 13 true rfl rfl) rfl rfl (r_conv Try.underlying3 Try.underlying28 rfl (by first | exact wr_u64 (by omega) | rfl)) ?_
    refine L_run (.yes 13 true rfl rfl) rfl rfl (r_move (v := .int _ _) rfl) ?_
    refine L_run (.yes 13 true rfl rfl) rfl rfl (r_add rfl rfl (by first | exact wr_u64 (by omega) | rfl)) ?_
    refine L_run (.yes 13 true rfl rfl) rfl rfl (r_eql rfl rfl) ?_
    refine L_run (.plain rfl) rfl rfl (r_pick_t (v := .bool _) rfl rfl) ?_
    refine L_run (.plain rfl) rfl rfl (r_assign (v := .bool _) rfl) ?_
    refine L_nil ?_
    refine W_ret ?_
    refine ret1 (v := .bool _) rfl rfl ?_
    first
      | exact ⟨(dec_t (by rw [hlst]; omega)).symm, by (repeat (first | exact Ch.refl _ | assumption | (refine Ch.fresh ?_ (by assumption) (by intro i hi he; first | exact he | exact (not_no he).elim | exact Or.inl he | exact Or.inr (Or.inl he) | exact Or.inr (Or.inr he) | (exfalso; have he2 : _ = some i := he; have := own_base (by assumption) he2; omega) | (exfalso; have he2 : i = _ := he; omega) | (exfalso; have he2 : _ = some i := he; have := ow_base (by assumption) he2; omega) | (exfalso; have := he.1; omega)))))⟩
      | exact ⟨rfl, by (repeat (first | exact Ch.refl _ | assumption | (refine Ch.fresh ?_ (by assumption) (by intro i hi he; first | exact he | exact (not_no he).elim | exact Or.inl he | exact Or.inr (Or.inl he) | exact Or.inr (Or.inr he) | (exfalso; have he2 : _ = some i := he; have := own_base (by assumption) he2; omega) | (exfalso; have he2 : i = _ := he; omega) | (exfalso; have he2 : _ = some i := he; have := ow_base (by assumption) he2; omega) | (exfalso; have := he.1; omega)))))⟩
end Go.Proofs.Ythpclaoniljfbaa

