/- The chapter's example, walked; and the statements' own functions. -/
import Derived.Test.YtmnddfedopjjbaaFrameR
namespace Go.Proofs.Ytmnddfedopjjbaa
open Go Go.RowKit
set_option linter.unusedVariables false
set_option linter.unusedSimpArgs false
theorem turn_length (l : List UInt8) (a : Int) (b : List UInt8) : (turn l a b).length = l.length := turnK_length _ _ _ _
theorem turn_by {w : World} {base : Nat} {r : Value} {l b : List UInt8} {a : Int} (h : w.ownsRow base 5 1 r l.length ((turn l a b).map b8)) : By w r (turn l a b) := by
  unfold By
  rw [turn_length]
  exact Sl.own h
theorem own_by {w : World} {base : Nat} {r : Value} {l : List UInt8} {n : Nat} (h : w.ownsRow base 5 1 r n (l.map b8)) (hn : n = l.length) : By w r l := by
  subst hn; exact Sl.own h
theorem sum_nine : more 0 [49, 50, 51, 52, 53, 54, 55, 56, 57] = 3421780262 := by decide +kernel
theorem sum_none : more 0 [] = 0 := by decide +kernel
theorem turn_three : sb (turn [1, 2, 3] 1 [255]) = sb [1, 253, 3] := by decide +kernel

theorem awake_walk  (w0 : World) : Does Try.prog 10 #[] w0 (fun r w' => r = .bool true ∧ Nw w0 w') := by
  refine fn_of (n := 16) (args := []) Try.func10 rfl rfl rfl ?_
  refine W_seq ?_
  refine W_region ?_
  refine L_run (.plain rfl) rfl rfl (r_assign (v := .bool _) rfl) ?_
  refine L_nil ?_
  refine W_seq ?_
  refine W_region ?_
  refine L_build1 [.int _ _, .int _ _, .int _ _, .int _ _, .int _ _, .int _ _, .int _ _, .int _ _, .int _ _] Try.underlying25 rfl rfl rfl (.plain rfl) rfl (by rfl) (by rfl) (by rfl) (fun b1 w1 hb1 hv1 eb1 hs1 c1 => ?_)
  refine L_mark Try.underlying25 Try.underlying5 (.plain rfl) rfl rfl (by (exact Bk.to (by assumption) (by (repeat (first | exact Sm.refl _ _ | (refine Sm.step (by assumption) (by intro hlt; first | exact not_no | (intro he; have he2 : _ = some _ := he; have := own_base (by assumption) he2; omega) | (intro he; have he2 : _ = _ := he; omega)) ?_)))))) rfl (fun w2 hb2 hv2 hs2 c2 => ?_)
  have hv2 : By _ _ [49, 50, 51, 52, 53, 54, 55, 56, 57] := hv2
  refine L_call (.plain rfl) rfl rfl (r_call Try.func11 rfl rfl rfl (by rfl)) (sum_walk _ [49, 50, 51, 52, 53, 54, 55, 56, 57] _ hv2 (by decide)) ?_
  rintro v3 w3 ⟨rfl, c3⟩
  have hz3 := c3.size
  refine L_run (.plain rfl) rfl rfl (r_eql rfl rfl) ?_
  refine L_run (.plain rfl) rfl rfl (r_move (v := .bool _) rfl) ?_
  refine L_as (v := .bool _) (v' := .bool true) 5 rfl (dec_t (by exact sum_nine)).symm ?_
  refine L_call (.yes 4 true rfl rfl) rfl rfl (r_call Try.func11 rfl rfl rfl (by rfl)) (sum_walk _ [] _ (Sl.nil _ 1) (by decide)) ?_
  rintro v6 w4 ⟨rfl, c4⟩
  have hz4 := c4.size
  refine L_run (.yes 4 true rfl rfl) rfl rfl (r_eql rfl rfl) ?_
  refine L_run (.plain rfl) rfl rfl (r_pick_t (v := .bool _) rfl rfl) ?_
  refine L_run (.plain rfl) rfl rfl (r_move (v := .bool _) rfl) ?_
  refine L_as (v := .bool _) (v' := .bool true) 9 rfl (dec_t (by exact sum_none)).symm ?_
  refine L_build1 [.int _ _, .int _ _, .int _ _] Try.underlying25 rfl rfl rfl (.yes 8 true rfl rfl) rfl (by rfl) (by rfl) (by rfl) (fun b10 w5 hb10 hv10 eb5 hs5 c5 => ?_)
  refine L_build1 [.int _ _] Try.underlying25 rfl rfl rfl (.yes 8 true rfl rfl) rfl (by rfl) (by rfl) (by rfl) (fun b11 w6 hb11 hv11 eb6 hs6 c6 => ?_)
  have hv10 : By _ _ [1, 2, 3] := hv10
  have hv11 : By _ _ [255] := hv11
  refine L_call (.yes 8 true rfl rfl) rfl rfl (r_call Try.func14 rfl rfl rfl (by rfl)) (turn_walk _ _ [1, 2, 3] [255] 1 _ (by (exact Sl.to (by first | assumption | exact Sl.own (by assumption) | exact Mu.sl (by assumption)) (fun i hi => by (repeat (first | exact Sm.refl _ _ | (refine Sm.step (by assumption) (by intro hlt; first | exact not_no | (intro he; have he2 : _ = some _ := he; have := own_base (by assumption) he2; omega) | (intro he; have he2 : _ = _ := he; omega)) ?_)))))) hv11 (by decide) (by decide) (by decide)) ?_
  rintro v12 w7 ⟨ho7, c7⟩
  have hz7 := c7.size
  have hv12 := turn_by ho7
  refine L_run (.yes 8 true rfl rfl) rfl rfl (r_bstr Try.underlying25 Try.underlying5 Try.underlying9 (by conv => lhs; whnf) (by (exact Sl.to (by first | assumption | exact Sl.own (by assumption) | exact Mu.sl (by assumption)) (fun i hi => by (repeat (first | exact Sm.refl _ _ | (refine Sm.step (by assumption) (by intro hlt; first | exact not_no | (intro he; have he2 : _ = some _ := he; have := own_base (by assumption) he2; omega) | (intro he; have he2 : _ = _ := he; omega)) ?_))))))) ?_
  refine L_run (.yes 8 true rfl rfl) rfl rfl (r_eqls rfl rfl) ?_
  refine L_run (.plain rfl) rfl rfl (r_pick_t (v := .bool _) rfl rfl) ?_
  refine L_as (v := .bool _) (v' := .bool true) 15 rfl (dec_t (by exact turn_three)).symm ?_
  refine L_run (.plain rfl) rfl rfl (r_assign (v := .bool _) rfl) ?_
  refine L_nil ?_
  refine W_ret ?_
  refine ret1 (v := .bool _) rfl rfl ?_
  exact ⟨rfl, by (repeat (first | exact Ch.refl _ | assumption | (refine Ch.fresh ?_ (by assumption) (by intro i hi he; first | exact he | (exfalso; have he2 : _ = some i := he; have := own_base (by assumption) he2; omega) | (exfalso; have he2 : i = _ := he; omega)))))⟩
end Go.Proofs.Ytmnddfedopjjbaa

