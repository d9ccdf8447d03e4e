/- A message's bytes by the document, walked. -/
import Derived.Test.YtcbcelfgbelaoaaDoorRef14
namespace Go.Proofs.YtcbcelfgbelaoaaDoor
open Go Go.RowKit
set_option linter.unusedVariables false
set_option linter.unusedSimpArgs false
theorem rvar_i (a : Int) (w : World) (ha : 0 ≤ a) (h : a ≤ 18446744073709551615) : Does Tryd.prog 32 #[.int .u64 a] w fun r w' => r = .string (sb (varL a.toNat)) ∧ Nw w w' := by
  have h2 := rvar_walk a.toNat w (by omega)
  rw [Int.toNat_of_nonneg ha] at h2
  exact h2
theorem bs_text (s : ByteArray) : bs (sb (varL s.size) ++ s) = textL s := by rw [bs_append, bs_sb]; rfl
theorem rput_is {m : Msg} {u : ByteArray} (hu : bs u = headL m ++ midL m) : rput (u ++ (sb (varL m.body.size) ++ m.body)) = sb (put (putM m)) := by
  rw [← sb_put, bs_append, bs_text, hu, putM]
  unfold headL
  simp only [List.append_assoc]
set_option maxHeartbeats 1000000 in
theorem rmput_walk (m : Msg) (w0 : World) (hok : m.ok) (hc : checkC m = 0) : Does Tryd.prog 14 #[m.v] w0 (fun r w' => r = .string (sb (put (putM m))) ∧ Nw w0 w') := by
  obtain ⟨hb, hs, hw0, hw, hk⟩ := may hc
  obtain ⟨⟨a1, a2⟩, ⟨e1, e2⟩, ⟨f1, f2⟩, ⟨g1, g2⟩⟩ := id hok
  have hkk : 0 ≤ m.kind ∧ m.kind ≤ 1 := by omega
  have z1 := var_le m.kind (by omega)
  have z2 := var_le m.life a2
  have z3 := var_le m.seq e2
  have z4 := var_le m.below f2
  have z5 := var_le m.object g2
  have z6 := var_le m.way (by omega)
  have z7 := varL_ten (v := m.method.size) (by omega)
  have z8 := varL_ten (v := m.body.size) (by omega)
  refine fn_of (n := 44) (args := [m.v]) Tryd.func14 rfl rfl rfl ?_
  refine W_seq ?_
  refine W_region ?_
  refine L_new (.plain rfl) rfl rfl (r_boxa rfl) (fun w1 b1 hb1 eb1 hs1 c1 => ?_)
  refine L_run (.plain rfl) rfl rfl (r_assign (v := .string _) rfl) ?_
  refine L_nil ?_
  refine W_seq ?_
  refine W_draw (fun W => Bk W b1 #[.int .i64 m.kind, .int .u64 m.life, .int .u64 m.seq, .int .u64 m.below, .int .u64 m.object, .string m.method, .int .i64 m.way, .string m.body] 24) 13 (m := 13) (by kernel_rfl) rfl (fun w2 c2 hs2 => ?_)
  refine held (by (exact Bk.to (by assumption) (by (repeat (first | exact Sm.refl _ _ | (refine Sm.stepT (by assumption) (by intro hlt hsm; exact not_no) ?_)))))) (fun hS => ?_)
  refine D_take 0 rfl (by kernel_rfl) (by kernel_rfl) (by kernel_rfl) (by kernel_rfl) (.plain rfl) rfl rfl (by assumption) (fun W hW => r_fieldb Tryd.underlying24 rfl (show _ = some 1 from rfl) rfl rfl (show _ = 0 from rfl)) ?_
  refine D_take 1 rfl (by kernel_rfl) (by kernel_rfl) (by kernel_rfl) (by kernel_rfl) (.plain rfl) rfl rfl (by assumption) (fun W hW => r_loadb rfl rfl (by exact hW) (by first | assumption | (conv => lhs; simp only [List.getElem?_toArray, List.getElem?_cons_succ, List.getElem?_cons_zero]))) ?_
  refine D_take 2 rfl (by kernel_rfl) (by kernel_rfl) (by kernel_rfl) (by kernel_rfl) (.plain rfl) rfl rfl (by assumption) (fun W hW => r_conv Tryd.underlying3 Tryd.underlying22 rfl (by first | exact wr_u64 (by omega) | rfl)) ?_
  refine D_take 4 rfl (by kernel_rfl) (by kernel_rfl) (by kernel_rfl) (by kernel_rfl) (.plain rfl) rfl rfl (by assumption) (fun W hW => r_fieldb Tryd.underlying24 rfl (show _ = some 1 from rfl) rfl rfl (show _ = 1 from rfl)) ?_
  refine D_take 5 rfl (by kernel_rfl) (by kernel_rfl) (by kernel_rfl) (by kernel_rfl) (.plain rfl) rfl rfl (by assumption) (fun W hW => r_loadb rfl rfl (by exact hW) (by first | assumption | (conv => lhs; simp only [List.getElem?_toArray, List.getElem?_cons_succ, List.getElem?_cons_zero]))) ?_
  refine D_take 8 rfl (by kernel_rfl) (by kernel_rfl) (by kernel_rfl) (by kernel_rfl) (.plain rfl) rfl rfl (by assumption) (fun W hW => r_fieldb Tryd.underlying24 rfl (show _ = some 1 from rfl) rfl rfl (show _ = 2 from rfl)) ?_
  refine D_take 9 rfl (by kernel_rfl) (by kernel_rfl) (by kernel_rfl) (by kernel_rfl) (.plain rfl) rfl rfl (by assumption) (fun W hW => r_loadb rfl rfl (by exact hW) (by first | assumption | (conv => lhs; simp only [List.getElem?_toArray, List.getElem?_cons_succ, List.getElem?_cons_zero]))) ?_
  refine D_ev 3 (by kernel_rfl) rfl ?_
  refine L_call (.plain rfl) rfl rfl (r_call Tryd.func32 rfl rfl rfl (by rfl)) (rvar_i m.kind _ hkk.1 (by omega)) ?_
  rintro v7 w3 ⟨rfl, c3⟩
  have hz3 := c3.size
  refine L_nil ?_
  refine heldK (by (exact Bk.to (by assumption) (by (repeat (first | exact Sm.refl _ _ | (refine Sm.stepT (by assumption) (by intro hlt hsm; exact not_no) ?_)))))) (fun hS => ?_)
  refine D_ev 6 (by kernel_rfl) rfl ?_
  refine L_call (.plain rfl) rfl rfl (r_call Tryd.func32 rfl rfl rfl (by rfl)) (rvar_i m.life _ a1 a2) ?_
  rintro v10 w4 ⟨rfl, c4⟩
  have hz4 := c4.size
  refine L_nil ?_
  refine heldK (by (exact Bk.to (by assumption) (by (repeat (first | exact Sm.refl _ _ | (refine Sm.stepT (by assumption) (by intro hlt hsm; exact not_no) ?_)))))) (fun hS => ?_)
  refine D_take 7 rfl (by kernel_rfl) (by kernel_rfl) (by kernel_rfl) (by kernel_rfl) (.plain rfl) rfl rfl (by assumption) (fun W hW => r_adds rfl rfl (by first | omega | (simp only [ByteArray.size_append, sb_size]; omega))) ?_
  refine D_ev 10 (by kernel_rfl) rfl ?_
  refine L_call (.plain rfl) rfl rfl (r_call Tryd.func32 rfl rfl rfl (by rfl)) (rvar_i m.seq _ e1 e2) ?_
  rintro v14 w5 ⟨rfl, c5⟩
  have hz5 := c5.size
  refine L_nil ?_
  refine heldK (by (exact Bk.to (by assumption) (by (repeat (first | exact Sm.refl _ _ | (refine Sm.stepT (by assumption) (by intro hlt hsm; exact not_no) ?_)))))) (fun hS => ?_)
  refine D_take 11 rfl (by kernel_rfl) (by kernel_rfl) (by kernel_rfl) (by kernel_rfl) (.plain rfl) rfl rfl (by assumption) (fun W hW => r_adds rfl rfl (by first | omega | (simp only [ByteArray.size_append, sb_size]; omega))) ?_
  refine D_take 12 rfl (by kernel_rfl) (by kernel_rfl) (by kernel_rfl) (by kernel_rfl) (.plain rfl) rfl rfl (by assumption) (fun W hW => r_assign (v := .string _) rfl) ?_
  refine D_done (by kernel_rfl) ?_
  refine W_seq ?_
  refine W_seq ?_
  refine W_region ?_
  refine L_run (.plain rfl) rfl rfl (r_fieldb Tryd.underlying24 rfl (show _ = some 1 from rfl) rfl rfl (show _ = 0 from rfl)) ?_
  refine L_run (.plain rfl) rfl rfl (r_loadb rfl rfl (by (exact Bk.to (by assumption) (by (repeat (first | exact Sm.refl _ _ | (refine Sm.stepT (by assumption) (by intro hlt hsm; exact not_no) ?_)))))) (by first | assumption | (conv => lhs; simp only [List.getElem?_toArray, List.getElem?_cons_succ, List.getElem?_cons_zero]))) ?_
  refine L_run (.plain rfl) rfl rfl (r_eql rfl rfl) ?_
  refine L_nil ?_
  refine W_endF [1] (fun f W => ∃ (u : ByteArray), f 3 = .string u ∧ (bs u = headL m ++ midL m ∧ Bk W b1 #[.int .i64 m.kind, .int .u64 m.life, .int .u64 m.seq, .int .u64 m.below, .int .u64 m.object, .string m.method, .int .i64 m.way, .string m.body] 24 ∧ Nw w0 W)) ?_ ?_
  · refine W_if rfl (fun h18 => ?_) (fun h18 => ?_)
    · refine W_draw (fun W => Bk W b1 #[.int .i64 m.kind, .int .u64 m.life, .int .u64 m.seq, .int .u64 m.below, .int .u64 m.object, .string m.method, .int .i64 m.way, .string m.body] 24) 14 (m := 14) (by kernel_rfl) rfl (fun w6 c6 hs6 => ?_)
      refine held (by (exact Bk.to (by assumption) (by (repeat (first | exact Sm.refl _ _ | (refine Sm.stepT (by assumption) (by intro hlt hsm; exact not_no) ?_)))))) (fun hS => ?_)
      refine D_take 0 rfl (by kernel_rfl) (by kernel_rfl) (by kernel_rfl) (by kernel_rfl) (.plain rfl) rfl rfl (by assumption) (fun W hW => r_move (v := .string _) rfl) ?_
      refine D_take 1 rfl (by kernel_rfl) (by kernel_rfl) (by kernel_rfl) (by kernel_rfl) (.plain rfl) rfl rfl (by assumption) (fun W hW => r_fieldb Tryd.underlying24 rfl (show _ = some 1 from rfl) rfl rfl (show _ = 3 from rfl)) ?_
      refine D_take 2 rfl (by kernel_rfl) (by kernel_rfl) (by kernel_rfl) (by kernel_rfl) (.plain rfl) rfl rfl (by assumption) (fun W hW => r_loadb rfl rfl (by exact hW) (by first | assumption | (conv => lhs; simp only [List.getElem?_toArray, List.getElem?_cons_succ, List.getElem?_cons_zero]))) ?_
      refine D_take 4 rfl (by kernel_rfl) (by kernel_rfl) (by kernel_rfl) (by kernel_rfl) (.plain rfl) rfl rfl (by assumption) (fun W hW => r_fieldb Tryd.underlying24 rfl (show _ = some 1 from rfl) rfl rfl (show _ = 4 from rfl)) ?_
      refine D_take 5 rfl (by kernel_rfl) (by kernel_rfl) (by kernel_rfl) (by kernel_rfl) (.plain rfl) rfl rfl (by assumption) (fun W hW => r_loadb rfl rfl (by exact hW) (by first | assumption | (conv => lhs; simp only [List.getElem?_toArray, List.getElem?_cons_succ, List.getElem?_cons_zero]))) ?_
      refine D_take 8 rfl (by kernel_rfl) (by kernel_rfl) (by kernel_rfl) (by kernel_rfl) (.plain rfl) rfl rfl (by assumption) (fun W hW => r_fieldb Tryd.underlying24 rfl (show _ = some 1 from rfl) rfl rfl (show _ = 5 from rfl)) ?_
      refine D_take 9 rfl (by kernel_rfl) (by kernel_rfl) (by kernel_rfl) (by kernel_rfl) (.plain rfl) rfl rfl (by assumption) (fun W hW => r_loadb rfl rfl (by exact hW) (by first | assumption | (conv => lhs; simp only [List.getElem?_toArray, List.getElem?_cons_succ, List.getElem?_cons_zero]))) ?_
      refine D_ev 3 (by kernel_rfl) rfl ?_
      refine L_call (.plain rfl) rfl rfl (r_call Tryd.func32 rfl rfl rfl (by rfl)) (rvar_i m.below _ f1 f2) ?_
      rintro v22 w7 ⟨rfl, c7⟩
      have hz7 := c7.size
      refine L_nil ?_
      refine heldK (by (exact Bk.to (by assumption) (by (repeat (first | exact Sm.refl _ _ | (refine Sm.stepT (by assumption) (by intro hlt hsm; exact not_no) ?_)))))) (fun hS => ?_)
      refine D_ev 6 (by kernel_rfl) rfl ?_
      refine L_call (.plain rfl) rfl rfl (r_call Tryd.func32 rfl rfl rfl (by rfl)) (rvar_i m.object _ g1 g2) ?_
      rintro v25 w8 ⟨rfl, c8⟩
      have hz8 := c8.size
      refine L_nil ?_
      refine heldK (by (exact Bk.to (by assumption) (by (repeat (first | exact Sm.refl _ _ | (refine Sm.stepT (by assumption) (by intro hlt hsm; exact not_no) ?_)))))) (fun hS => ?_)
      refine D_take 7 rfl (by kernel_rfl) (by kernel_rfl) (by kernel_rfl) (by kernel_rfl) (.plain rfl) rfl rfl (by assumption) (fun W hW => r_adds rfl rfl (by first | omega | (simp only [ByteArray.size_append, sb_size]; omega))) ?_
      refine D_ev 10 (by kernel_rfl) rfl ?_
      refine L_call (.plain rfl) rfl rfl (r_call Tryd.func33 rfl rfl rfl (by rfl)) (rtext_walk m.method _ (by omega)) ?_
      rintro v29 w9 ⟨rfl, c9⟩
      have hz9 := c9.size
      refine L_nil ?_
      refine heldK (by (exact Bk.to (by assumption) (by (repeat (first | exact Sm.refl _ _ | (refine Sm.stepT (by assumption) (by intro hlt hsm; exact not_no) ?_)))))) (fun hS => ?_)
      refine D_take 11 rfl (by kernel_rfl) (by kernel_rfl) (by kernel_rfl) (by kernel_rfl) (.plain rfl) rfl rfl (by assumption) (fun W hW => r_adds rfl rfl (by first | omega | (simp only [ByteArray.size_append, sb_size]; omega))) ?_
      refine D_take 12 rfl (by kernel_rfl) (by kernel_rfl) (by kernel_rfl) (by kernel_rfl) (.plain rfl) rfl rfl (by assumption) (fun W hW => r_adds rfl rfl (by first | omega | (simp only [ByteArray.size_append, sb_size]; omega))) ?_
      refine D_take 13 rfl (by kernel_rfl) (by kernel_rfl) (by kernel_rfl) (by kernel_rfl) (.plain rfl) rfl rfl (by assumption) (fun W hW => r_assign (v := .string _) rfl) ?_
      refine D_done (by kernel_rfl) ?_
      refine ⟨⟨rfl, trivial⟩, _, rfl, ?_⟩
      refine ⟨?_, by (exact Bk.to (by assumption) (by (repeat (first | exact Sm.refl _ _ | (refine Sm.stepT (by assumption) (by intro hlt hsm; exact not_no) ?_))))), by (repeat (first | exact Ch.refl _ | assumption | (refine Ch.fresh ?_ (by assumption) (by intro i hi he; exact he))))⟩
      first
      | (unfold headL midL
         rw [if_pos h18]
         simp only [bs_append, bs_sb, bs_text, List.append_assoc]
         rfl)
      | (unfold headL midL
         rw [if_neg h18]
         simp only [bs_append, bs_sb, List.append_assoc])
    · refine W_region ?_
      refine L_run (.plain rfl) rfl rfl (r_move (v := .string _) rfl) ?_
      refine L_run (.plain rfl) rfl rfl (r_fieldb Tryd.underlying24 rfl (show _ = some 1 from rfl) rfl rfl (show _ = 6 from rfl)) ?_
      refine L_run (.plain rfl) rfl rfl (r_loadb rfl rfl (by (exact Bk.to (by assumption) (by (repeat (first | exact Sm.refl _ _ | (refine Sm.stepT (by assumption) (by intro hlt hsm; exact not_no) ?_)))))) (by first | assumption | (conv => lhs; simp only [List.getElem?_toArray, List.getElem?_cons_succ, List.getElem?_cons_zero]))) ?_
      refine L_run (.plain rfl) rfl rfl (r_conv Tryd.underlying3 Tryd.underlying22 rfl (by first | exact wr_u64 (by omega) | rfl)) ?_
      refine L_call (.plain rfl) rfl rfl (r_call Tryd.func32 rfl rfl rfl (by rfl)) (rvar_i m.way _ hw0 (by omega)) ?_
      rintro v36 w10 ⟨rfl, c10⟩
      have hz10 := c10.size
      refine L_run (.plain rfl) rfl rfl (r_adds rfl rfl (by first | omega | (simp only [ByteArray.size_append, sb_size]; omega))) ?_
      refine L_run (.plain rfl) rfl rfl (r_assign (v := .string _) rfl) ?_
      refine L_nil ?_
      refine ⟨⟨rfl, trivial⟩, _, rfl, ?_⟩
      refine ⟨?_, by (exact Bk.to (by assumption) (by (repeat (first | exact Sm.refl _ _ | (refine Sm.stepT (by assumption) (by intro hlt hsm; exact not_no) ?_))))), by (repeat (first | exact Ch.refl _ | assumption | (refine Ch.fresh ?_ (by assumption) (by intro i hi he; exact he))))⟩
      first
      | (unfold headL midL
         rw [if_pos h18]
         simp only [bs_append, bs_sb, bs_text, List.append_assoc]
         rfl)
      | (unfold headL midL
         rw [if_neg h18]
         simp only [bs_append, bs_sb, List.append_assoc])
  rintro gct18 w11 ⟨u, hf3, hCt18⟩
  refine W_as 3 hf3 rfl ?_
  clear hf3
  obtain ⟨hu, hbm, hnw⟩ := hCt18
  have hz := hnw.size
  have hul := congrArg List.length hu
  have y1 := headL_le hok hk
  have y2 := midL_le hok hw hs
  rw [bs_length, List.length_append] at hul
  refine W_seq ?_
  refine W_region ?_
  refine L_run (.plain rfl) rfl rfl (r_move (v := .string _) rfl) ?_
  refine L_run (.plain rfl) rfl rfl (r_fieldb Tryd.underlying24 rfl (show _ = some 1 from rfl) rfl rfl (show _ = 7 from rfl)) ?_
  refine L_run (.plain rfl) rfl rfl (r_loadb rfl rfl (by (exact Bk.to (by assumption) (by (repeat (first | exact Sm.refl _ _ | (refine Sm.stepT (by assumption) (by intro hlt hsm; exact not_no) ?_)))))) (by first | assumption | (conv => lhs; simp only [List.getElem?_toArray, List.getElem?_cons_succ, List.getElem?_cons_zero]))) ?_
  refine L_call (.plain rfl) rfl rfl (r_call Tryd.func33 rfl rfl rfl (by rfl)) (rtext_walk m.body _ (by omega)) ?_
  rintro v41 w12 ⟨rfl, c12⟩
  have hz12 := c12.size
  refine L_run (.plain rfl) rfl rfl (r_adds rfl rfl (by first | omega | (simp only [ByteArray.size_append, sb_size]; omega))) ?_
  refine L_call (.plain rfl) rfl rfl (r_call Tryd.func15 rfl rfl rfl (by rfl)) (rput_walk (u ++ (sb (varL m.body.size) ++ m.body)) _ (by simp only [ByteArray.size_append, sb_size]; omega)) ?_
  rintro v43 w13 ⟨rfl, c13⟩
  have hz13 := c13.size
  refine L_run (.plain rfl) rfl rfl (r_assign (v := .string _) rfl) ?_
  refine L_nil ?_
  refine W_ret ?_
  refine ret1 (v := .string _) rfl rfl ?_
  exact ⟨congrArg Value.string (rput_is hu), by (repeat (first | exact Ch.refl _ | assumption | (refine Ch.fresh ?_ (by assumption) (by intro i hi he; exact he))))⟩
end Go.Proofs.YtcbcelfgbelaoaaDoor

