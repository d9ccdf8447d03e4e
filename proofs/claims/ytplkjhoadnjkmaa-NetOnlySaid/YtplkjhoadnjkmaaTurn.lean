/- Turning bytes: the program's and the document's, walked; plainly. -/
import Derived.Test.YtplkjhoadnjkmaaRows
import Derived.Test.YtplkjhoadnjkmaaRow
namespace Go.Proofs.Ytplkjhoadnjkmaa
open Go Go.RowKit
set_option linter.unusedVariables false
set_option linter.unusedSimpArgs false
/-- What is turned, up to a byte. -/
def turnK (k : Nat) (l : List UInt8) (a : Int) (by_ : List UInt8) : List UInt8 :=
  l.mapIdx fun i c => if i < k ∧ a ≤ i ∧ i - a < by_.length then c ^^^ by_.getD (i - a).toNat 0 else c
def turn (l : List UInt8) (a : Int) (by_ : List UInt8) : List UInt8 := turnK l.length l a by_
theorem turnK_length (k : Nat) (l : List UInt8) (a : Int) (by_ : List UInt8) : (turnK k l a by_).length = l.length := by simp [turnK]
theorem turnK_get (k : Nat) (l : List UInt8) (a : Int) (by_ : List UInt8) (i : Nat) (h : i < l.length) : (turnK k l a by_)[i]? = some (if i < k ∧ a ≤ i ∧ i - a < by_.length then l[i] ^^^ by_.getD (i - a).toNat 0 else l[i]) := by
  simp [turnK, h]
theorem turnK_zero (l : List UInt8) (a : Int) (by_ : List UInt8) : turnK 0 l a by_ = l := by
  apply List.ext_getElem?
  intro i
  by_cases h : i < l.length
  · rw [turnK_get _ _ _ _ _ h, if_neg (by omega), List.getElem?_eq_getElem h]
  · rw [List.getElem?_eq_none (by rw [turnK_length]; omega), List.getElem?_eq_none (by omega)]
theorem turnK_skip (k : Nat) (l : List UInt8) (a : Int) (by_ : List UInt8) (h : ¬ (a ≤ k ∧ k - a < by_.length)) : turnK (k + 1) l a by_ = turnK k l a by_ := by
  apply List.ext_getElem?
  intro i
  by_cases h : i < l.length
  · rw [turnK_get _ _ _ _ _ h, turnK_get _ _ _ _ _ h]
    by_cases e : i = k
    · subst e; rw [if_neg (by omega), if_neg (by omega)]
    · by_cases e2 : i < k ∧ a ≤ i ∧ i - a < by_.length
      · rw [if_pos e2, if_pos (by omega)]
      · rw [if_neg e2, if_neg (by omega)]
  · rw [List.getElem?_eq_none (by rw [turnK_length]; omega), List.getElem?_eq_none (by rw [turnK_length]; omega)]
theorem turnK_step (k : Nat) (l : List UInt8) (a : Int) (by_ : List UInt8) (h : a ≤ k ∧ k - a < by_.length) (hk : k < l.length) : turnK (k + 1) l a by_ = (turnK k l a by_).set k (l[k] ^^^ by_.getD (k - a).toNat 0) := by
  apply List.ext_getElem?
  intro i
  rw [List.getElem?_set]
  by_cases h : i < l.length
  · rw [turnK_get _ _ _ _ _ h, turnK_get _ _ _ _ _ h, turnK_length]
    by_cases e : k = i
    · subst e; rw [if_pos rfl, if_pos hk, if_pos (by omega)]
    · rw [if_neg e]
      by_cases e2 : i < k ∧ a ≤ i ∧ i - a < by_.length
      · rw [if_pos e2, if_pos (by omega)]
      · rw [if_neg e2, if_neg (by omega)]
  · rw [List.getElem?_eq_none (by rw [turnK_length]; omega), if_neg (by omega), List.getElem?_eq_none (by rw [turnK_length]; omega)]
theorem b8_xor (a b : UInt8) : bits .xor .u8 a.toNat b.toNat = ((a ^^^ b).toNat : Int) := by
  have h : bits .xor .u8 a.toNat b.toNat = ((BitVec.ofInt 8 a.toNat ^^^ BitVec.ofInt 8 b.toNat).toNat : Int) := by
    refine wr_u8 ?_
    have : ∀ x : BitVec 8, 0 ≤ (x.toNat : Int) ∧ (x.toNat : Int) ≤ 255 := fun x => by have := x.isLt; omega
    exact this _
  rw [h]
  congr 1
  rw [BitVec.toNat_xor, UInt8.toNat_xor]
  simp
theorem turnK_at (k : Nat) (l : List UInt8) (a : Int) (by_ : List UInt8) (h : k < l.length) : (turnK k l a by_).getD k 0 = l[k] := by
  rw [List.getD_eq_getElem?_getD, turnK_get _ _ _ _ _ h, if_neg (by omega)]; rfl
theorem bytes_info : (Try.prog.info? 5).map (fun i => (i.zero, i.size, i.bytes)) = some (some (.int .u8 0), 1, 1) := rfl

theorem turn_walk (v u : Value) (l by_ : List UInt8) (a : Int) (w0 : World) (hv : By w0 v l) (hu : By w0 u by_) (hl : l.length ≤ 1000000) (hb : by_.length ≤ 1000000) (ha : -1000000 ≤ a ∧ a ≤ 1000000) : Does Try.prog 28 #[v, .int .i64 a, u] w0 (fun r w' => w'.ownsRow w0.heap.size 5 1 r l.length ((turn l a by_).map b8) ∧ Nw w0 w') := by
  refine fn_of (n := 51) (args := [v, .int .i64 a, u]) Try.func28 rfl rfl rfl ?_
  refine W_seq ?_
  refine W_region ?_
  refine L_run (.plain rfl) rfl rfl (r_assign (by conv => lhs; whnf)) ?_
  refine L_nil ?_
  refine W_seq ?_
  refine W_region ?_
  refine L_run (.plain rfl) rfl rfl (r_move (by conv => lhs; whnf)) ?_
  refine L_apnil Try.underlying31 bytes_info rfl (by decide) (.plain rfl) rfl rfl (by conv => lhs; whnf) hv (b8_oneCell l) (by unfold maxLen; omega) (by omega) (fun v10 w1 ho10 c1 => ?_)
  have hz1 := c1.size
  refine L_run (.plain rfl) rfl rfl (r_assign (by conv => lhs; whnf)) ?_
  refine L_nil ?_
  refine W_seq ?_
  refine W_seq ?_
  refine W_region ?_
  refine L_run (.plain rfl) rfl rfl (r_move (by conv => lhs; whnf)) ?_
  refine L_run (.plain rfl) rfl rfl (r_lenSl Try.underlying31 (by conv => lhs; whnf) (by (exact Sl.to (by first | assumption | exact Sl.own (by assumption) | exact Mu.sl (by assumption) | exact Ow.sl (by assumption)) (fun i hi => by (repeat (first | exact Sm.refl _ _ | (refine Sm.stepT (by assumption) (by intro hlt hsm; first | exact not_no | (intro he; have he2 : _ = some _ := he; have := own_base (by assumption) he2; omega) | (intro he; have he2 : _ = _ := he; omega) | (intro he; have he2 : _ = some _ := he; have := ow_base (by assumption) he2; omega) | (intro he; have := he.1; omega) | exact bk_not (by assumption) hsm rfl | (refine own_not ?_ hi hsm rfl <;> assumption) | (refine ow_not ?_ hi hsm rfl <;> assumption) | (intro he; have he2 : _ = some _ := he; have := Ow.lt (by assumption) he2; omega) | (intro he; have he2 : _ = some _ := he; have := Ow.lt (by assumption) he2; have := own_base (by assumption) hi; omega) | (intro he; have he2 : _ = some _ := he; have := Ow.lt how he2; first | omega | (have := own_base (by assumption) hi; omega)) | (intro he; have he2 : _ = _ := he; have := own_base (by assumption) hi; omega) | (intro he; have he2 : _ = _ := he; have := ow_base (by assumption) hi; omega) | (intro he; have he2 : _ = _ := he; rw [he2] at hi; exact absurd hi (by assumption)) | (intro he; have he2 : _ = some _ := he; have h3 := own_lt (by assumption) he2; first | omega | (have h4 : _ = some _ := hi; simp [Value.ownBlock] at h4; omega)) | (intro he; have he2 : _ = some _ := he; have h3 := ow_base (by assumption) he2; have h4 : _ = some _ := hi; simp [Value.ownBlock] at h4; omega) | (intro he; have he2 : _ = some _ := he; exact absurd he2 (hsep _ hi)) | (intro he; first | exact absurd he (by assumption) | exact absurd he.symm (by assumption))) ?_))))))) ?_
  refine L_run (.plain rfl) rfl rfl (r_move (v := .int _ _) rfl) ?_
  refine L_nil ?_
  refine W_block ?_
  refine W_loopF [1, 2, 7, 12] (fun m f W => ∃ (k : Nat), f 13 = .int .i64 k ∧ (k ≤ l.length ∧ W.ownsRow w0.heap.size 5 1 v10 l.length ((turnK k l a by_).map b8) ∧ Nw w0 W) ∧ m = l.length - k) ?_ ?_
  · refine ⟨_, 0, rfl, ?_, rfl⟩
    refine ⟨by omega, by rw [turnK_zero]; exact ho10, by (repeat (first | exact Ch.refl _ | assumption | (refine Ch.fresh ?_ (by assumption) (by intro i hi he; first | exact he | (exfalso; have he2 : _ = some i := he; have := own_base (by assumption) he2; omega) | (exfalso; have he2 : i = _ := he; omega) | (exfalso; have he2 : _ = some i := he; have := ow_base (by assumption) he2; omega) | (exfalso; have := he.1; omega)))))⟩
  rintro m0 g0 w2 ⟨k, hf13, hR0, rfl⟩
  refine W_as 13 hf13 rfl ?_
  clear hf13
  obtain ⟨hk, hown, hnw⟩ := hR0
  have hz := hnw.size
  refine W_seq ?_
  refine W_region ?_
  refine L_run (.plain rfl) rfl rfl (r_lss rfl rfl) ?_
  refine L_nil ?_
  refine W_seq ?_
  refine W_if rfl (fun h14 => ?_) (fun h14 => ?_)
  · have hlt : k < l.length := by omega
    refine W_skip ?_
    refine W_cutF [1, 2, 7, 12, 13] (fun f W => True ∧ (k + 1 ≤ l.length ∧ W.ownsRow w0.heap.size 5 1 v10 l.length ((turnK (k + 1) l a by_).map b8) ∧ Nw w0 W)) ?_ ?_
    · refine W_block ?_
      refine W_seq ?_
      refine W_region ?_
      refine L_run (.plain rfl) rfl rfl (r_move (v := .int _ _) rfl) ?_
      refine L_run (.plain rfl) rfl rfl (r_assign (v := .int _ _) rfl) ?_
      refine L_nil ?_
      refine W_cutF [1, 2, 7, 8, 12, 13] (fun f W => f 36 = .bool (decide (a ≤ k ∧ k - a < by_.length)) ∧ (W = w2)) ?_ ?_
      · refine W_region ?_
        refine L_run (.plain rfl) rfl rfl (r_move (v := .int _ _) rfl) ?_
        refine L_run (.plain rfl) rfl rfl (r_move (v := .int _ _) rfl) ?_
        refine L_run (.plain rfl) rfl rfl (r_leq rfl rfl) ?_
        refine L_run (.plain rfl) rfl rfl (r_move (v := .bool _) rfl) ?_
        refine L_case (d := 19) rfl (fun h19 => ?_) (fun h19 => ?_)
        · refine L_run (.yes 3 true rfl rfl) rfl rfl (r_move (v := .int _ _) rfl) ?_
          refine L_run (.yes 3 true rfl rfl) rfl rfl (r_move (v := .int _ _) rfl) ?_
          refine L_run (.yes 3 true rfl rfl) rfl rfl (r_sub rfl rfl (by first | exact wr_i64 (by omega) | rfl)) ?_
          refine L_run (.yes 3 true rfl rfl) rfl rfl (r_move (by conv => lhs; whnf)) ?_
          refine L_run (.yes 3 true rfl rfl) rfl rfl (r_lenSl Try.underlying31 (by conv => lhs; whnf) (by (exact Sl.to (by first | assumption | exact Sl.own (by assumption) | exact Mu.sl (by assumption) | exact Ow.sl (by assumption)) (fun i hi => by (repeat (first | exact Sm.refl _ _ | (refine Sm.stepT (by assumption) (by intro hlt hsm; first | exact not_no | (intro he; have he2 : _ = some _ := he; have := own_base (by assumption) he2; omega) | (intro he; have he2 : _ = _ := he; omega) | (intro he; have he2 : _ = some _ := he; have := ow_base (by assumption) he2; omega) | (intro he; have := he.1; omega) | exact bk_not (by assumption) hsm rfl | (refine own_not ?_ hi hsm rfl <;> assumption) | (refine ow_not ?_ hi hsm rfl <;> assumption) | (intro he; have he2 : _ = some _ := he; have := Ow.lt (by assumption) he2; omega) | (intro he; have he2 : _ = some _ := he; have := Ow.lt (by assumption) he2; have := own_base (by assumption) hi; omega) | (intro he; have he2 : _ = some _ := he; have := Ow.lt how he2; first | omega | (have := own_base (by assumption) hi; omega)) | (intro he; have he2 : _ = _ := he; have := own_base (by assumption) hi; omega) | (intro he; have he2 : _ = _ := he; have := ow_base (by assumption) hi; omega) | (intro he; have he2 : _ = _ := he; rw [he2] at hi; exact absurd hi (by assumption)) | (intro he; have he2 : _ = some _ := he; have h3 := own_lt (by assumption) he2; first | omega | (have h4 : _ = some _ := hi; simp [Value.ownBlock] at h4; omega)) | (intro he; have he2 : _ = some _ := he; have h3 := ow_base (by assumption) he2; have h4 : _ = some _ := hi; simp [Value.ownBlock] at h4; omega) | (intro he; have he2 : _ = some _ := he; exact absurd he2 (hsep _ hi)) | (intro he; first | exact absurd he (by assumption) | exact absurd he.symm (by assumption))) ?_))))))) ?_
          refine L_run (.yes 3 true rfl rfl) rfl rfl (r_lss rfl rfl) ?_
          refine L_run (.plain rfl) rfl rfl (r_pick_t (v := .bool _) rfl rfl) ?_
          refine L_run (.plain rfl) rfl rfl (r_move (v := .bool _) rfl) ?_
          refine L_case (d := 27) rfl (fun h27 => ?_) (fun h27 => ?_)
          · refine L_run (.yes 11 true rfl rfl) rfl rfl (r_move (v := .int _ _) rfl) ?_
            refine L_run (.yes 11 true rfl rfl) rfl rfl (r_geq rfl rfl) ?_
            refine L_run (.yes 11 true rfl rfl) rfl rfl (r_move (v := .bool _) rfl) ?_
            refine L_case (d := 30) rfl (fun h30 => ?_) (fun h30 => ?_)
            · refine L_pass rfl rfl rfl rfl rfl ?_
              refine L_pass rfl rfl rfl rfl rfl ?_
              refine L_pass rfl rfl rfl rfl rfl ?_
              refine L_pass rfl rfl rfl rfl rfl ?_
              refine L_run (.yes 11 true rfl rfl) rfl rfl (r_pick_t (v := .bool _) rfl rfl) ?_
              refine L_run (.plain rfl) rfl rfl (r_pick_t (v := .bool _) rfl rfl) ?_
              refine L_nil ?_
              refine ⟨⟨rfl, rfl, rfl, rfl, rfl, rfl, trivial⟩, (dec_t (by omega)), ?_⟩
              rfl
            · refine L_run (.yes 14 false rfl rfl) rfl rfl (r_move (v := .int _ _) rfl) ?_
              refine L_run (.yes 14 false rfl rfl) rfl rfl (r_move (v := .int _ _) rfl) ?_
              refine L_run (.yes 14 false rfl rfl) rfl rfl (r_sub rfl rfl (by first | exact wr_i64 (by omega) | rfl)) ?_
              refine L_run (.yes 14 false rfl rfl) rfl rfl (r_geq rfl rfl) ?_
              refine L_run (.yes 11 true rfl rfl) rfl rfl (r_pick_f (v := .bool _) rfl rfl) ?_
              refine L_run (.plain rfl) rfl rfl (r_pick_t (v := .bool _) rfl rfl) ?_
              refine L_nil ?_
              refine ⟨⟨rfl, rfl, rfl, rfl, rfl, rfl, trivial⟩, (dec_i (by omega)), ?_⟩
              rfl
          · refine L_pass rfl rfl rfl rfl rfl ?_
            refine L_pass rfl rfl rfl rfl rfl ?_
            refine L_pass rfl rfl rfl rfl rfl ?_
            refine L_passu rfl rfl rfl rfl ?_
            refine L_passu rfl rfl rfl rfl ?_
            refine L_passu rfl rfl rfl rfl ?_
            refine L_passu rfl rfl rfl rfl ?_
            refine L_pass rfl rfl rfl rfl rfl ?_
            refine L_run (.plain rfl) rfl rfl (r_pick_f (v := .bool _) rfl rfl) ?_
            refine L_nil ?_
            refine ⟨⟨rfl, rfl, rfl, rfl, rfl, rfl, trivial⟩, (dec_f (by omega)), ?_⟩
            rfl
        · refine L_pass rfl rfl rfl rfl rfl ?_
          refine L_pass rfl rfl rfl rfl rfl ?_
          refine L_pass rfl rfl rfl rfl rfl ?_
          refine L_pass rfl rfl rfl rfl rfl ?_
          refine L_pass rfl rfl rfl rfl rfl ?_
          refine L_pass rfl rfl rfl rfl rfl ?_
          refine L_run (.plain rfl) rfl rfl (r_pick_f (v := .bool _) rfl rfl) ?_
          refine L_run (.plain rfl) rfl rfl (r_move (v := .bool _) rfl) ?_
          refine L_pass rfl rfl rfl rfl rfl ?_
          refine L_pass rfl rfl rfl rfl rfl ?_
          refine L_pass rfl rfl rfl rfl rfl ?_
          refine L_passu rfl rfl rfl rfl ?_
          refine L_passu rfl rfl rfl rfl ?_
          refine L_passu rfl rfl rfl rfl ?_
          refine L_passu rfl rfl rfl rfl ?_
          refine L_pass rfl rfl rfl rfl rfl ?_
          refine L_run (.plain rfl) rfl rfl (r_pick_f (v := .bool _) rfl rfl) ?_
          refine L_nil ?_
          refine ⟨⟨rfl, rfl, rfl, rfl, rfl, rfl, trivial⟩, (dec_f (by omega)), ?_⟩
          rfl
      rintro gcr5 w3 ⟨hf36, hCr5⟩
      refine W_as 36 hf36 rfl ?_
      clear hf36
      subst hCr5
      refine W_if rfl (fun h36 => ?_) (fun h36 => ?_)
      · refine W_tail 12 (by kernel_rfl) (by kernel_rfl) (fun w4 c4 hs4 => ?_)
        refine H_run (.plain rfl) rfl rfl (r_move (by conv => lhs; whnf)) ?_
        refine H_run (.plain rfl) rfl rfl (r_move (v := .int _ _) rfl) ?_
        refine H_run (.plain rfl) rfl rfl (r_idxSl Try.underlying31 (show _ = some 1 from rfl) (by conv => lhs; whnf) rfl (by (exact Sl.to (by first | assumption | exact Sl.own (by assumption) | exact Mu.sl (by assumption) | exact Ow.sl (by assumption)) (fun i hi => by (repeat (first | exact Sm.refl _ _ | (refine Sm.stepT (by assumption) (by intro hlt hsm; first | exact not_no | (intro he; have he2 : _ = some _ := he; have := own_base (by assumption) he2; omega) | (intro he; have he2 : _ = _ := he; omega) | (intro he; have he2 : _ = some _ := he; have := ow_base (by assumption) he2; omega) | (intro he; have := he.1; omega) | exact bk_not (by assumption) hsm rfl | (refine own_not ?_ hi hsm rfl <;> assumption) | (refine ow_not ?_ hi hsm rfl <;> assumption) | (intro he; have he2 : _ = some _ := he; have := Ow.lt (by assumption) he2; omega) | (intro he; have he2 : _ = some _ := he; have := Ow.lt (by assumption) he2; have := own_base (by assumption) hi; omega) | (intro he; have he2 : _ = some _ := he; have := Ow.lt how he2; first | omega | (have := own_base (by assumption) hi; omega)) | (intro he; have he2 : _ = _ := he; have := own_base (by assumption) hi; omega) | (intro he; have he2 : _ = _ := he; have := ow_base (by assumption) hi; omega) | (intro he; have he2 : _ = _ := he; rw [he2] at hi; exact absurd hi (by assumption)) | (intro he; have he2 : _ = some _ := he; have h3 := own_lt (by assumption) he2; first | omega | (have h4 : _ = some _ := hi; simp [Value.ownBlock] at h4; omega)) | (intro he; have he2 : _ = some _ := he; have h3 := ow_base (by assumption) he2; have h4 : _ = some _ := hi; simp [Value.ownBlock] at h4; omega) | (intro he; have he2 : _ = some _ := he; exact absurd he2 (hsep _ hi)) | (intro he; first | exact absurd he (by assumption) | exact absurd he.symm (by assumption))) ?_)))))) (by omega) (by omega) (by conv => lhs; (try simp only [Nat.mul_one, Nat.zero_add, Int.toNat_natCast, Int.toNat_zero, Int.reduceToNat, Nat.reduceMul, Nat.reduceAdd]))) ?_
        refine H_run (.plain rfl) rfl rfl (r_loadSl rfl rfl (by (exact Sl.to (by first | assumption | exact Sl.own (by assumption) | exact Mu.sl (by assumption) | exact Ow.sl (by assumption)) (fun i hi => by (repeat (first | exact Sm.refl _ _ | (refine Sm.stepT (by assumption) (by intro hlt hsm; first | exact not_no | (intro he; have he2 : _ = some _ := he; have := own_base (by assumption) he2; omega) | (intro he; have he2 : _ = _ := he; omega) | (intro he; have he2 : _ = some _ := he; have := ow_base (by assumption) he2; omega) | (intro he; have := he.1; omega) | exact bk_not (by assumption) hsm rfl | (refine own_not ?_ hi hsm rfl <;> assumption) | (refine ow_not ?_ hi hsm rfl <;> assumption) | (intro he; have he2 : _ = some _ := he; have := Ow.lt (by assumption) he2; omega) | (intro he; have he2 : _ = some _ := he; have := Ow.lt (by assumption) he2; have := own_base (by assumption) hi; omega) | (intro he; have he2 : _ = some _ := he; have := Ow.lt how he2; first | omega | (have := own_base (by assumption) hi; omega)) | (intro he; have he2 : _ = _ := he; have := own_base (by assumption) hi; omega) | (intro he; have he2 : _ = _ := he; have := ow_base (by assumption) hi; omega) | (intro he; have he2 : _ = _ := he; rw [he2] at hi; exact absurd hi (by assumption)) | (intro he; have he2 : _ = some _ := he; have h3 := own_lt (by assumption) he2; first | omega | (have h4 : _ = some _ := hi; simp [Value.ownBlock] at h4; omega)) | (intro he; have he2 : _ = some _ := he; have h3 := ow_base (by assumption) he2; have h4 : _ = some _ := hi; simp [Value.ownBlock] at h4; omega) | (intro he; have he2 : _ = some _ := he; exact absurd he2 (hsep _ hi)) | (intro he; first | exact absurd he (by assumption) | exact absurd he.symm (by assumption))) ?_)))))) (by exact map_b8 _ _ (by first | omega | (simp only [turnK_length]; omega)))) ?_
        refine H_run (.plain rfl) rfl rfl (r_move (by conv => lhs; whnf)) ?_
        refine H_run (.plain rfl) rfl rfl (r_move (v := .int _ _) rfl) ?_
        refine H_run (.plain rfl) rfl rfl (r_move (v := .int _ _) rfl) ?_
        refine H_run (.plain rfl) rfl rfl (r_sub rfl rfl (by first | exact wr_i64 (by omega) | rfl)) ?_
        refine H_run (.plain rfl) rfl rfl (r_idxSl Try.underlying31 (show _ = some 1 from rfl) (by conv => lhs; whnf) rfl (by (exact Sl.to (by first | assumption | exact Sl.own (by assumption) | exact Mu.sl (by assumption) | exact Ow.sl (by assumption)) (fun i hi => by (repeat (first | exact Sm.refl _ _ | (refine Sm.stepT (by assumption) (by intro hlt hsm; first | exact not_no | (intro he; have he2 : _ = some _ := he; have := own_base (by assumption) he2; omega) | (intro he; have he2 : _ = _ := he; omega) | (intro he; have he2 : _ = some _ := he; have := ow_base (by assumption) he2; omega) | (intro he; have := he.1; omega) | exact bk_not (by assumption) hsm rfl | (refine own_not ?_ hi hsm rfl <;> assumption) | (refine ow_not ?_ hi hsm rfl <;> assumption) | (intro he; have he2 : _ = some _ := he; have := Ow.lt (by assumption) he2; omega) | (intro he; have he2 : _ = some _ := he; have := Ow.lt (by assumption) he2; have := own_base (by assumption) hi; omega) | (intro he; have he2 : _ = some _ := he; have := Ow.lt how he2; first | omega | (have := own_base (by assumption) hi; omega)) | (intro he; have he2 : _ = _ := he; have := own_base (by assumption) hi; omega) | (intro he; have he2 : _ = _ := he; have := ow_base (by assumption) hi; omega) | (intro he; have he2 : _ = _ := he; rw [he2] at hi; exact absurd hi (by assumption)) | (intro he; have he2 : _ = some _ := he; have h3 := own_lt (by assumption) he2; first | omega | (have h4 : _ = some _ := hi; simp [Value.ownBlock] at h4; omega)) | (intro he; have he2 : _ = some _ := he; have h3 := ow_base (by assumption) he2; have h4 : _ = some _ := hi; simp [Value.ownBlock] at h4; omega) | (intro he; have he2 : _ = some _ := he; exact absurd he2 (hsep _ hi)) | (intro he; first | exact absurd he (by assumption) | exact absurd he.symm (by assumption))) ?_)))))) (by omega) (by omega) (by conv => lhs; (try simp only [Nat.mul_one, Nat.zero_add, Int.toNat_natCast, Int.toNat_zero, Int.reduceToNat, Nat.reduceMul, Nat.reduceAdd]))) ?_
        refine H_run (.plain rfl) rfl rfl (r_loadSl rfl rfl (by (exact Sl.to (by first | assumption | exact Sl.own (by assumption) | exact Mu.sl (by assumption) | exact Ow.sl (by assumption)) (fun i hi => by (repeat (first | exact Sm.refl _ _ | (refine Sm.stepT (by assumption) (by intro hlt hsm; first | exact not_no | (intro he; have he2 : _ = some _ := he; have := own_base (by assumption) he2; omega) | (intro he; have he2 : _ = _ := he; omega) | (intro he; have he2 : _ = some _ := he; have := ow_base (by assumption) he2; omega) | (intro he; have := he.1; omega) | exact bk_not (by assumption) hsm rfl | (refine own_not ?_ hi hsm rfl <;> assumption) | (refine ow_not ?_ hi hsm rfl <;> assumption) | (intro he; have he2 : _ = some _ := he; have := Ow.lt (by assumption) he2; omega) | (intro he; have he2 : _ = some _ := he; have := Ow.lt (by assumption) he2; have := own_base (by assumption) hi; omega) | (intro he; have he2 : _ = some _ := he; have := Ow.lt how he2; first | omega | (have := own_base (by assumption) hi; omega)) | (intro he; have he2 : _ = _ := he; have := own_base (by assumption) hi; omega) | (intro he; have he2 : _ = _ := he; have := ow_base (by assumption) hi; omega) | (intro he; have he2 : _ = _ := he; rw [he2] at hi; exact absurd hi (by assumption)) | (intro he; have he2 : _ = some _ := he; have h3 := own_lt (by assumption) he2; first | omega | (have h4 : _ = some _ := hi; simp [Value.ownBlock] at h4; omega)) | (intro he; have he2 : _ = some _ := he; have h3 := ow_base (by assumption) he2; have h4 : _ = some _ := hi; simp [Value.ownBlock] at h4; omega) | (intro he; have he2 : _ = some _ := he; exact absurd he2 (hsep _ hi)) | (intro he; first | exact absurd he (by assumption) | exact absurd he.symm (by assumption))) ?_)))))) (by exact map_b8 _ _ (by first | omega | (simp only [turnK_length]; omega)))) ?_
        refine H_run (.plain rfl) rfl rfl (r_xor rfl rfl) ?_
        refine H_run (.plain rfl) rfl rfl (r_idxSl Try.underlying31 (show _ = some 1 from rfl) (by conv => lhs; whnf) rfl (by (exact Sl.to (by first | assumption | exact Sl.own (by assumption) | exact Mu.sl (by assumption) | exact Ow.sl (by assumption)) (fun i hi => by (repeat (first | exact Sm.refl _ _ | (refine Sm.stepT (by assumption) (by intro hlt hsm; first | exact not_no | (intro he; have he2 : _ = some _ := he; have := own_base (by assumption) he2; omega) | (intro he; have he2 : _ = _ := he; omega) | (intro he; have he2 : _ = some _ := he; have := ow_base (by assumption) he2; omega) | (intro he; have := he.1; omega) | exact bk_not (by assumption) hsm rfl | (refine own_not ?_ hi hsm rfl <;> assumption) | (refine ow_not ?_ hi hsm rfl <;> assumption) | (intro he; have he2 : _ = some _ := he; have := Ow.lt (by assumption) he2; omega) | (intro he; have he2 : _ = some _ := he; have := Ow.lt (by assumption) he2; have := own_base (by assumption) hi; omega) | (intro he; have he2 : _ = some _ := he; have := Ow.lt how he2; first | omega | (have := own_base (by assumption) hi; omega)) | (intro he; have he2 : _ = _ := he; have := own_base (by assumption) hi; omega) | (intro he; have he2 : _ = _ := he; have := ow_base (by assumption) hi; omega) | (intro he; have he2 : _ = _ := he; rw [he2] at hi; exact absurd hi (by assumption)) | (intro he; have he2 : _ = some _ := he; have h3 := own_lt (by assumption) he2; first | omega | (have h4 : _ = some _ := hi; simp [Value.ownBlock] at h4; omega)) | (intro he; have he2 : _ = some _ := he; have h3 := ow_base (by assumption) he2; have h4 : _ = some _ := hi; simp [Value.ownBlock] at h4; omega) | (intro he; have he2 : _ = some _ := he; exact absurd he2 (hsep _ hi)) | (intro he; first | exact absurd he (by assumption) | exact absurd he.symm (by assumption))) ?_)))))) (by omega) (by omega) (by conv => lhs; (try simp only [Nat.mul_one, Nat.zero_add, Int.toNat_natCast, Int.toNat_zero, Int.reduceToNat, Nat.reduceMul, Nat.reduceAdd]))) ?_
        refine H_nil ?_
        refine L_setOwn (.plain rfl) rfl rfl (u := .int _ _) rfl rfl (by (exact Own.to (by assumption) (fun i hi => by (repeat (first | exact Sm.refl _ _ | (refine Sm.stepT (by assumption) (by intro hlt hsm; first | exact not_no | (intro he; have he2 : _ = some _ := he; have := own_base (by assumption) he2; omega) | (intro he; have he2 : _ = _ := he; omega) | (intro he; have he2 : _ = some _ := he; have := ow_base (by assumption) he2; omega) | (intro he; have := he.1; omega) | exact bk_not (by assumption) hsm rfl | (refine own_not ?_ hi hsm rfl <;> assumption) | (refine ow_not ?_ hi hsm rfl <;> assumption) | (intro he; have he2 : _ = some _ := he; have := Ow.lt (by assumption) he2; omega) | (intro he; have he2 : _ = some _ := he; have := Ow.lt (by assumption) he2; have := own_base (by assumption) hi; omega) | (intro he; have he2 : _ = some _ := he; have := Ow.lt how he2; first | omega | (have := own_base (by assumption) hi; omega)) | (intro he; have he2 : _ = _ := he; have := own_base (by assumption) hi; omega) | (intro he; have he2 : _ = _ := he; have := ow_base (by assumption) hi; omega) | (intro he; have he2 : _ = _ := he; rw [he2] at hi; exact absurd hi (by assumption)) | (intro he; have he2 : _ = some _ := he; have h3 := own_lt (by assumption) he2; first | omega | (have h4 : _ = some _ := hi; simp [Value.ownBlock] at h4; omega)) | (intro he; have he2 : _ = some _ := he; have h3 := ow_base (by assumption) he2; have h4 : _ = some _ := hi; simp [Value.ownBlock] at h4; omega) | (intro he; have he2 : _ = some _ := he; exact absurd he2 (hsep _ hi)) | (intro he; first | exact absurd he (by assumption) | exact absurd he.symm (by assumption))) ?_)))))) (by rw [List.length_map, turnK_length]; exact hlt) (fun w5 hb5 hs5 c5 => ?_)
        refine L_nil ?_
        refine ⟨⟨rfl, rfl, rfl, rfl, rfl, trivial⟩, trivial, ?_⟩
        first
          | exact ⟨by omega, by rw [turnK_skip _ _ _ _ h36]; exact hown, hnw⟩
          | (refine ⟨by omega, ?_, by (repeat (first | exact Ch.refl _ | assumption | (refine Ch.fresh ?_ (by assumption) (by intro i hi he; first | exact he | (exfalso; have he2 : _ = some i := he; have := own_base (by assumption) he2; omega) | (exfalso; have he2 : i = _ := he; omega) | (exfalso; have he2 : _ = some i := he; have := ow_base (by assumption) he2; omega) | (exfalso; have := he.1; omega)))))⟩
             rw [turnK_step _ _ _ _ h36 hlt, List.map_set, ← turnK_at k l a by_ hlt]
             unfold b8
             rw [← b8_xor]
             assumption)
      · refine W_skip ?_
        refine ⟨⟨rfl, rfl, rfl, rfl, rfl, trivial⟩, trivial, ?_⟩
        first
          | exact ⟨by omega, by rw [turnK_skip _ _ _ _ h36]; exact hown, hnw⟩
          | (refine ⟨by omega, ?_, by (repeat (first | exact Ch.refl _ | assumption | (refine Ch.fresh ?_ (by assumption) (by intro i hi he; first | exact he | (exfalso; have he2 : _ = some i := he; have := own_base (by assumption) he2; omega) | (exfalso; have he2 : i = _ := he; omega) | (exfalso; have he2 : _ = some i := he; have := ow_base (by assumption) he2; omega) | (exfalso; have := he.1; omega)))))⟩
             rw [turnK_step _ _ _ _ h36 hlt, List.map_set, ← turnK_at k l a by_ hlt]
             unfold b8
             rw [← b8_xor]
             assumption)
    rintro gcb1 w6 ⟨-, hCb1⟩
    refine W_region ?_
    refine L_run (.plain rfl) rfl rfl (r_add rfl rfl (by first | exact wr_i64 (by omega) | rfl)) ?_
    refine L_run (.plain rfl) rfl rfl (r_move (v := .int _ _) rfl) ?_
    refine L_nil ?_
    refine ⟨⟨rfl, rfl, rfl, rfl, trivial⟩, _, ?_, k + 1, rfl, ?_, rfl⟩
    · omega
    exact hCb1
  · refine W_exit ?_
    repeat (first | refine blk_hit ?_ | refine blk_miss rfl ?_)
    refine W_seq ?_
    refine W_region ?_
    obtain rfl : k = l.length := by omega
    refine L_run (.plain rfl) rfl rfl (r_move (by conv => lhs; whnf)) ?_
    refine L_run (.plain rfl) rfl rfl (r_assign (by conv => lhs; whnf)) ?_
    refine L_nil ?_
    refine W_ret ?_
    refine ret1 rfl (by conv => lhs; whnf) ?_
    exact ⟨hown, hnw⟩

/-- What is turned, while k bytes of 'by' are done, and of the next one the places below i. -/
def turnR (k i : Nat) (l : List UInt8) (a : Int) (by_ : List UInt8) : List UInt8 :=
  l.mapIdx fun j c => if a ≤ j ∧ (j - a < k ∨ (j - a = k ∧ j < i)) then c ^^^ by_.getD (j - a).toNat 0 else c
theorem turnR_length (k i : Nat) (l : List UInt8) (a : Int) (by_ : List UInt8) : (turnR k i l a by_).length = l.length := by simp [turnR]
theorem turnR_get (k i : Nat) (l : List UInt8) (a : Int) (by_ : List UInt8) (j : Nat) (h : j < l.length) : (turnR k i l a by_)[j]? = some (if a ≤ j ∧ (j - a < k ∨ (j - a = k ∧ j < i)) then l[j] ^^^ by_.getD (j - a).toNat 0 else l[j]) := by
  simp [turnR, h]
theorem turnR_none (k i : Nat) (l : List UInt8) (a : Int) (by_ : List UInt8) (j : Nat) (h : ¬ j < l.length) : (turnR k i l a by_)[j]? = none := List.getElem?_eq_none (by rw [turnR_length]; omega)
theorem ite_same {α : Type} {p q : Prop} [Decidable p] [Decidable q] (h : p ↔ q) (x y : α) : (if p then x else y) = if q then x else y := by
  by_cases hp : p
  · rw [if_pos hp, if_pos (h.1 hp)]
  · rw [if_neg hp, if_neg (fun hq => hp (h.2 hq))]
theorem turnR_start (l : List UInt8) (a : Int) (by_ : List UInt8) : turnR 0 0 l a by_ = l := by
  apply List.ext_getElem?
  intro j
  by_cases h : j < l.length
  · rw [turnR_get _ _ _ _ _ _ h, if_neg (by omega), List.getElem?_eq_getElem h]
  · rw [turnR_none _ _ _ _ _ _ h, List.getElem?_eq_none (by omega)]
theorem turnR_row (k : Nat) (l : List UInt8) (a : Int) (by_ : List UInt8) : turnR k l.length l a by_ = turnR (k + 1) 0 l a by_ := by
  apply List.ext_getElem?
  intro j
  by_cases h : j < l.length
  · rw [turnR_get _ _ _ _ _ _ h, turnR_get _ _ _ _ _ _ h]; exact congrArg some (ite_same (by omega) _ _)
  · rw [turnR_none _ _ _ _ _ _ h, turnR_none _ _ _ _ _ _ h]
theorem turnR_skip (k i : Nat) (l : List UInt8) (a : Int) (by_ : List UInt8) (hn : ¬ (a ≤ i ∧ i - a = k)) : turnR k (i + 1) l a by_ = turnR k i l a by_ := by
  apply List.ext_getElem?
  intro j
  by_cases h : j < l.length
  · rw [turnR_get _ _ _ _ _ _ h, turnR_get _ _ _ _ _ _ h]; exact congrArg some (ite_same (by omega) _ _)
  · rw [turnR_none _ _ _ _ _ _ h, turnR_none _ _ _ _ _ _ h]
theorem turnR_at (k i : Nat) (l : List UInt8) (a : Int) (by_ : List UInt8) (hi : i < l.length) (hn : a ≤ i ∧ i - a = k) : (turnR k i l a by_).getD i 0 = l[i] := by
  rw [List.getD_eq_getElem?_getD, turnR_get _ _ _ _ _ _ hi, if_neg (by omega)]; rfl
theorem turnR_step (k i : Nat) (l : List UInt8) (a : Int) (by_ : List UInt8) (hi : i < l.length) (hn : a ≤ i ∧ i - a = k) : turnR k (i + 1) l a by_ = (turnR k i l a by_).set i (l[i] ^^^ by_.getD k 0) := by
  apply List.ext_getElem?
  intro j
  rw [List.getElem?_set]
  by_cases h : j < l.length
  · rw [turnR_get _ _ _ _ _ _ h, turnR_get _ _ _ _ _ _ h, turnR_length]
    by_cases e : i = j
    · subst e; rw [if_pos rfl, if_pos hi, if_pos (by omega), show (i - a).toNat = k by omega]
    · rw [if_neg e]; exact congrArg some (ite_same (by omega) _ _)
  · rw [turnR_none _ _ _ _ _ _ h, turnR_none _ _ _ _ _ _ h, if_neg (by omega)]
theorem turnR_end (l : List UInt8) (a : Int) (by_ : List UInt8) : turnR by_.length 0 l a by_ = turn l a by_ := by
  apply List.ext_getElem?
  intro j
  unfold turn
  by_cases h : j < l.length
  · rw [turnR_get _ _ _ _ _ _ h, turnK_get _ _ _ _ _ h]; exact congrArg some (ite_same (by omega) _ _)
  · rw [turnR_none _ _ _ _ _ _ h, List.getElem?_eq_none (by rw [turnK_length]; omega)]
theorem bat_getD (s : ByteArray) (i : Nat) : bat s i = (bs s).getD i 0 := rfl

theorem rturn_walk (s u : ByteArray) (a : Int) (w0 : World) (hl : s.size ≤ 1000000) (hb : u.size ≤ 1000000) (ha : -1000000 ≤ a ∧ a ≤ 1000000) : Does Try.prog 27 #[.string s, .int .i64 a, .string u] w0 (fun r w' => r = .string (sb (turn (bs s) a (bs u))) ∧ Nw w0 w') := by
  refine fn_of (n := 47) (args := [.string s, .int .i64 a, .string u]) Try.func27 rfl rfl rfl ?_
  refine W_seq ?_
  refine W_region ?_
  refine L_run (.plain rfl) rfl rfl (r_assign (v := .string _) rfl) ?_
  refine L_nil ?_
  refine W_seq ?_
  refine W_region ?_
  refine L_run (.plain rfl) rfl rfl (r_move (v := .string _) rfl) ?_
  refine L_mbytes Try.underlying9 Try.underlying31 Try.underlying5 (by first | omega | (simp only [sb_size, ByteArray.size_append]; omega)) (.plain rfl) rfl rfl (fun v11 w1 b11 hv11 c1 eb1 hs1 => ?_)
  have hm11 : Mu w1 b11 v11 _ _ := ⟨by rw [List.length_map, bs_length], hv11⟩
  refine L_run (.plain rfl) rfl rfl (r_assign (by conv => lhs; whnf)) ?_
  refine L_nil ?_
  refine W_seq ?_
  refine W_seq ?_
  refine W_region ?_
  refine L_run (.plain rfl) rfl rfl (r_assign (v := .int _ _) rfl) ?_
  refine L_nil ?_
  refine W_block ?_
  refine W_loopF [1, 2, 7] (fun m f W => ∃ (k : Nat), f 8 = .int .i64 k ∧ (k ≤ u.size ∧ Mu W b11 v11 s.size ((turnR k 0 (bs s) a (bs u)).map b8) ∧ Nw w0 W) ∧ m = u.size - k) ?_ ?_
  · refine ⟨_, 0, rfl, ?_, rfl⟩
    exact ⟨by omega, by rw [turnR_start]; exact hm11, by (repeat (first | exact Ch.refl _ | assumption | (refine Ch.fresh ?_ (by assumption) (by intro i hi he; first | exact he | (exfalso; have he2 : _ = some i := he; have := own_base (by assumption) he2; omega) | (exfalso; have he2 : i = _ := he; omega) | (exfalso; have he2 : _ = some i := he; have := ow_base (by assumption) he2; omega) | (exfalso; have := he.1; omega)))))⟩
  rintro m0 g0 w2 ⟨k, hf8, hR0, rfl⟩
  refine W_as 8 hf8 rfl ?_
  clear hf8
  obtain ⟨hk, hm, hnw⟩ := hR0
  have hz := hnw.size
  refine W_seq ?_
  refine W_seq ?_
  refine W_region ?_
  refine L_run (.plain rfl) rfl rfl (r_move (v := .int _ _) rfl) ?_
  refine L_run (.plain rfl) rfl rfl (r_move (v := .string _) rfl) ?_
  refine L_run (.plain rfl) rfl rfl (r_lens Try.underlying9 rfl) ?_
  refine L_run (.plain rfl) rfl rfl (r_lss rfl rfl) ?_
  refine L_nil ?_
  refine W_if rfl (fun h15 => ?_) (fun h15 => ?_)
  · have hlt : k < u.size := by omega
    refine W_skip ?_
    refine W_seq ?_
    refine W_block ?_
    refine W_seq ?_
    refine W_region ?_
    refine L_run (.plain rfl) rfl rfl (r_assign (v := .int _ _) rfl) ?_
    refine L_nil ?_
    refine W_block ?_
    refine W_loopF [1, 2, 7, 8] (fun m f W => ∃ (i : Nat), f 9 = .int .i64 i ∧ (i ≤ s.size ∧ Mu W b11 v11 s.size ((turnR k i (bs s) a (bs u)).map b8) ∧ Nw w0 W) ∧ m = s.size - i) ?_ ?_
    · refine ⟨_, 0, rfl, ?_, rfl⟩
      exact ⟨by omega, hm, hnw⟩
    rintro m1 g1 w3 ⟨i, hf9, hR1, rfl⟩
    refine W_as 9 hf9 rfl ?_
    clear hf9
    obtain ⟨hi, hm2, hnw2⟩ := hR1
    refine W_seq ?_
    refine W_seq ?_
    refine W_region ?_
    refine L_run (.plain rfl) rfl rfl (r_move (v := .int _ _) rfl) ?_
    refine L_run (.plain rfl) rfl rfl (r_move (by conv => lhs; whnf)) ?_
    refine L_run (.plain rfl) rfl rfl (r_lenSl Try.underlying31 (by conv => lhs; whnf) (by (exact Sl.to (by first | assumption | exact Sl.own (by assumption) | exact Mu.sl (by assumption) | exact Ow.sl (by assumption)) (fun i hi => by (repeat (first | exact Sm.refl _ _ | (refine Sm.stepT (by assumption) (by intro hlt hsm; first | exact not_no | (intro he; have he2 : _ = some _ := he; have := own_base (by assumption) he2; omega) | (intro he; have he2 : _ = _ := he; omega) | (intro he; have he2 : _ = some _ := he; have := ow_base (by assumption) he2; omega) | (intro he; have := he.1; omega) | exact bk_not (by assumption) hsm rfl | (refine own_not ?_ hi hsm rfl <;> assumption) | (refine ow_not ?_ hi hsm rfl <;> assumption) | (intro he; have he2 : _ = some _ := he; have := Ow.lt (by assumption) he2; omega) | (intro he; have he2 : _ = some _ := he; have := Ow.lt (by assumption) he2; have := own_base (by assumption) hi; omega) | (intro he; have he2 : _ = some _ := he; have := Ow.lt how he2; first | omega | (have := own_base (by assumption) hi; omega)) | (intro he; have he2 : _ = _ := he; have := own_base (by assumption) hi; omega) | (intro he; have he2 : _ = _ := he; have := ow_base (by assumption) hi; omega) | (intro he; have he2 : _ = _ := he; rw [he2] at hi; exact absurd hi (by assumption)) | (intro he; have he2 : _ = some _ := he; have h3 := own_lt (by assumption) he2; first | omega | (have h4 : _ = some _ := hi; simp [Value.ownBlock] at h4; omega)) | (intro he; have he2 : _ = some _ := he; have h3 := ow_base (by assumption) he2; have h4 : _ = some _ := hi; simp [Value.ownBlock] at h4; omega) | (intro he; have he2 : _ = some _ := he; exact absurd he2 (hsep _ hi)) | (intro he; first | exact absurd he (by assumption) | exact absurd he.symm (by assumption))) ?_))))))) ?_
    refine L_run (.plain rfl) rfl rfl (r_lss rfl rfl) ?_
    refine L_nil ?_
    refine W_if rfl (fun h21 => ?_) (fun h21 => ?_)
    · have hlt2 : i < s.size := by omega
      have hlt3 : i < (bs s).length := by rw [bs_length]; exact hlt2
      refine W_skip ?_
      refine W_cutF [1, 2, 7, 8, 9] (fun f W => True ∧ (i + 1 ≤ s.size ∧ Mu W b11 v11 s.size ((turnR k (i + 1) (bs s) a (bs u)).map b8) ∧ Nw w0 W)) ?_ ?_
      · refine W_block ?_
        refine W_cutF [1, 2, 7, 8, 9] (fun f W => f 33 = .bool (decide (a ≤ i ∧ i - a = k)) ∧ (W = w3)) ?_ ?_
        · refine W_region ?_
          refine L_run (.plain rfl) rfl rfl (r_move (v := .int _ _) rfl) ?_
          refine L_run (.plain rfl) rfl rfl (r_move (v := .int _ _) rfl) ?_
          refine L_run (.plain rfl) rfl rfl (r_leq rfl rfl) ?_
          refine L_run (.plain rfl) rfl rfl (r_move (v := .bool _) rfl) ?_
          refine L_case (d := 27) rfl (fun h27 => ?_) (fun h27 => ?_)
          · refine L_run (.yes 3 true rfl rfl) rfl rfl (r_move (v := .int _ _) rfl) ?_
            refine L_run (.yes 3 true rfl rfl) rfl rfl (r_move (v := .int _ _) rfl) ?_
            refine L_run (.yes 3 true rfl rfl) rfl rfl (r_sub rfl rfl (by first | exact wr_i64 (by omega) | rfl)) ?_
            refine L_run (.yes 3 true rfl rfl) rfl rfl (r_move (v := .int _ _) rfl) ?_
            refine L_run (.yes 3 true rfl rfl) rfl rfl (r_eql rfl rfl) ?_
            refine L_run (.plain rfl) rfl rfl (r_pick_t (v := .bool _) rfl rfl) ?_
            refine L_nil ?_
            refine ⟨⟨rfl, rfl, rfl, rfl, rfl, trivial⟩, (dec_i (by omega)), ?_⟩
            rfl
          · refine L_pass rfl rfl rfl rfl rfl ?_
            refine L_pass rfl rfl rfl rfl rfl ?_
            refine L_pass rfl rfl rfl rfl rfl ?_
            refine L_pass rfl rfl rfl rfl rfl ?_
            refine L_pass rfl rfl rfl rfl rfl ?_
            refine L_run (.plain rfl) rfl rfl (r_pick_f (v := .bool _) rfl rfl) ?_
            refine L_nil ?_
            refine ⟨⟨rfl, rfl, rfl, rfl, rfl, trivial⟩, (dec_f (by omega)), ?_⟩
            rfl
        rintro gcr8 w4 ⟨hf33, hCr8⟩
        refine W_as 33 hf33 rfl ?_
        clear hf33
        subst hCr8
        refine W_if rfl (fun h33 => ?_) (fun h33 => ?_)
        · refine W_tail 11 (by kernel_rfl) (by kernel_rfl) (fun w5 c5 hs5 => ?_)
          refine H_run (.plain rfl) rfl rfl (r_move (by conv => lhs; whnf)) ?_
          refine H_run (.plain rfl) rfl rfl (r_move (v := .int _ _) rfl) ?_
          refine H_run (.plain rfl) rfl rfl (r_move (by conv => lhs; whnf)) ?_
          refine H_run (.plain rfl) rfl rfl (r_move (v := .int _ _) rfl) ?_
          refine H_run (.plain rfl) rfl rfl (r_idxSl Try.underlying31 (show _ = some 1 from rfl) (by conv => lhs; whnf) rfl (by (exact Sl.to (by first | assumption | exact Sl.own (by assumption) | exact Mu.sl (by assumption) | exact Ow.sl (by assumption)) (fun i hi => by (repeat (first | exact Sm.refl _ _ | (refine Sm.stepT (by assumption) (by intro hlt hsm; first | exact not_no | (intro he; have he2 : _ = some _ := he; have := own_base (by assumption) he2; omega) | (intro he; have he2 : _ = _ := he; omega) | (intro he; have he2 : _ = some _ := he; have := ow_base (by assumption) he2; omega) | (intro he; have := he.1; omega) | exact bk_not (by assumption) hsm rfl | (refine own_not ?_ hi hsm rfl <;> assumption) | (refine ow_not ?_ hi hsm rfl <;> assumption) | (intro he; have he2 : _ = some _ := he; have := Ow.lt (by assumption) he2; omega) | (intro he; have he2 : _ = some _ := he; have := Ow.lt (by assumption) he2; have := own_base (by assumption) hi; omega) | (intro he; have he2 : _ = some _ := he; have := Ow.lt how he2; first | omega | (have := own_base (by assumption) hi; omega)) | (intro he; have he2 : _ = _ := he; have := own_base (by assumption) hi; omega) | (intro he; have he2 : _ = _ := he; have := ow_base (by assumption) hi; omega) | (intro he; have he2 : _ = _ := he; rw [he2] at hi; exact absurd hi (by assumption)) | (intro he; have he2 : _ = some _ := he; have h3 := own_lt (by assumption) he2; first | omega | (have h4 : _ = some _ := hi; simp [Value.ownBlock] at h4; omega)) | (intro he; have he2 : _ = some _ := he; have h3 := ow_base (by assumption) he2; have h4 : _ = some _ := hi; simp [Value.ownBlock] at h4; omega) | (intro he; have he2 : _ = some _ := he; exact absurd he2 (hsep _ hi)) | (intro he; first | exact absurd he (by assumption) | exact absurd he.symm (by assumption))) ?_)))))) (by omega) (by omega) (by conv => lhs; (try simp only [Nat.mul_one, Nat.zero_add, Int.toNat_natCast, Int.toNat_zero, Int.reduceToNat, Nat.reduceMul, Nat.reduceAdd]))) ?_
          refine H_run (.plain rfl) rfl rfl (r_loadSl rfl rfl (by (exact Sl.to (by first | assumption | exact Sl.own (by assumption) | exact Mu.sl (by assumption) | exact Ow.sl (by assumption)) (fun i hi => by (repeat (first | exact Sm.refl _ _ | (refine Sm.stepT (by assumption) (by intro hlt hsm; first | exact not_no | (intro he; have he2 : _ = some _ := he; have := own_base (by assumption) he2; omega) | (intro he; have he2 : _ = _ := he; omega) | (intro he; have he2 : _ = some _ := he; have := ow_base (by assumption) he2; omega) | (intro he; have := he.1; omega) | exact bk_not (by assumption) hsm rfl | (refine own_not ?_ hi hsm rfl <;> assumption) | (refine ow_not ?_ hi hsm rfl <;> assumption) | (intro he; have he2 : _ = some _ := he; have := Ow.lt (by assumption) he2; omega) | (intro he; have he2 : _ = some _ := he; have := Ow.lt (by assumption) he2; have := own_base (by assumption) hi; omega) | (intro he; have he2 : _ = some _ := he; have := Ow.lt how he2; first | omega | (have := own_base (by assumption) hi; omega)) | (intro he; have he2 : _ = _ := he; have := own_base (by assumption) hi; omega) | (intro he; have he2 : _ = _ := he; have := ow_base (by assumption) hi; omega) | (intro he; have he2 : _ = _ := he; rw [he2] at hi; exact absurd hi (by assumption)) | (intro he; have he2 : _ = some _ := he; have h3 := own_lt (by assumption) he2; first | omega | (have h4 : _ = some _ := hi; simp [Value.ownBlock] at h4; omega)) | (intro he; have he2 : _ = some _ := he; have h3 := ow_base (by assumption) he2; have h4 : _ = some _ := hi; simp [Value.ownBlock] at h4; omega) | (intro he; have he2 : _ = some _ := he; exact absurd he2 (hsep _ hi)) | (intro he; first | exact absurd he (by assumption) | exact absurd he.symm (by assumption))) ?_)))))) (by exact map_b8 _ _ (by rw [turnR_length]; exact hlt3))) ?_
          refine H_run (.plain rfl) rfl rfl (r_move (v := .string _) rfl) ?_
          refine H_run (.plain rfl) rfl rfl (r_move (v := .int _ _) rfl) ?_
          refine H_run (.plain rfl) rfl rfl (r_indexs Try.underlying9 rfl rfl (by omega) (by omega) (by conv => lhs; (try simp only [Nat.mul_one, Nat.zero_add, Int.toNat_natCast, Int.toNat_zero, Int.reduceToNat, Nat.reduceMul, Nat.reduceAdd]))) ?_
          refine H_run (.plain rfl) rfl rfl (r_xor rfl rfl) ?_
          refine H_run (.plain rfl) rfl rfl (r_idxSl Try.underlying31 (show _ = some 1 from rfl) (by conv => lhs; whnf) rfl (by (exact Sl.to (by first | assumption | exact Sl.own (by assumption) | exact Mu.sl (by assumption) | exact Ow.sl (by assumption)) (fun i hi => by (repeat (first | exact Sm.refl _ _ | (refine Sm.stepT (by assumption) (by intro hlt hsm; first | exact not_no | (intro he; have he2 : _ = some _ := he; have := own_base (by assumption) he2; omega) | (intro he; have he2 : _ = _ := he; omega) | (intro he; have he2 : _ = some _ := he; have := ow_base (by assumption) he2; omega) | (intro he; have := he.1; omega) | exact bk_not (by assumption) hsm rfl | (refine own_not ?_ hi hsm rfl <;> assumption) | (refine ow_not ?_ hi hsm rfl <;> assumption) | (intro he; have he2 : _ = some _ := he; have := Ow.lt (by assumption) he2; omega) | (intro he; have he2 : _ = some _ := he; have := Ow.lt (by assumption) he2; have := own_base (by assumption) hi; omega) | (intro he; have he2 : _ = some _ := he; have := Ow.lt how he2; first | omega | (have := own_base (by assumption) hi; omega)) | (intro he; have he2 : _ = _ := he; have := own_base (by assumption) hi; omega) | (intro he; have he2 : _ = _ := he; have := ow_base (by assumption) hi; omega) | (intro he; have he2 : _ = _ := he; rw [he2] at hi; exact absurd hi (by assumption)) | (intro he; have he2 : _ = some _ := he; have h3 := own_lt (by assumption) he2; first | omega | (have h4 : _ = some _ := hi; simp [Value.ownBlock] at h4; omega)) | (intro he; have he2 : _ = some _ := he; have h3 := ow_base (by assumption) he2; have h4 : _ = some _ := hi; simp [Value.ownBlock] at h4; omega) | (intro he; have he2 : _ = some _ := he; exact absurd he2 (hsep _ hi)) | (intro he; first | exact absurd he (by assumption) | exact absurd he.symm (by assumption))) ?_)))))) (by omega) (by omega) (by conv => lhs; (try simp only [Nat.mul_one, Nat.zero_add, Int.toNat_natCast, Int.toNat_zero, Int.reduceToNat, Nat.reduceMul, Nat.reduceAdd]))) ?_
          refine H_nil ?_
          refine L_setMu (.plain rfl) rfl rfl (u := .int _ _) rfl rfl (by (exact Mu.to (by assumption) (by (repeat (first | exact Sm.refl _ _ | (refine Sm.stepT (by assumption) (by intro hlt hsm; first | exact not_no | (intro he; have he2 : _ = some _ := he; have := own_base (by assumption) he2; omega) | (intro he; have he2 : _ = _ := he; omega) | (intro he; have he2 : _ = some _ := he; have := ow_base (by assumption) he2; omega) | (intro he; have := he.1; omega) | exact bk_not (by assumption) hsm rfl | (refine own_not ?_ hi hsm rfl <;> assumption) | (refine ow_not ?_ hi hsm rfl <;> assumption) | (intro he; have he2 : _ = some _ := he; have := Ow.lt (by assumption) he2; omega) | (intro he; have he2 : _ = some _ := he; have := Ow.lt (by assumption) he2; have := own_base (by assumption) hi; omega) | (intro he; have he2 : _ = some _ := he; have := Ow.lt how he2; first | omega | (have := own_base (by assumption) hi; omega)) | (intro he; have he2 : _ = _ := he; have := own_base (by assumption) hi; omega) | (intro he; have he2 : _ = _ := he; have := ow_base (by assumption) hi; omega) | (intro he; have he2 : _ = _ := he; rw [he2] at hi; exact absurd hi (by assumption)) | (intro he; have he2 : _ = some _ := he; have h3 := own_lt (by assumption) he2; first | omega | (have h4 : _ = some _ := hi; simp [Value.ownBlock] at h4; omega)) | (intro he; have he2 : _ = some _ := he; have h3 := ow_base (by assumption) he2; have h4 : _ = some _ := hi; simp [Value.ownBlock] at h4; omega) | (intro he; have he2 : _ = some _ := he; exact absurd he2 (hsep _ hi)) | (intro he; first | exact absurd he (by assumption) | exact absurd he.symm (by assumption))) ?_)))))) (by rw [List.length_map, turnR_length]; exact hlt3) (fun w6 hb6 hs6 c6 => ?_)
          refine L_nil ?_
          refine ⟨⟨rfl, rfl, rfl, rfl, rfl, trivial⟩, trivial, ?_⟩
          first
            | exact ⟨by omega, by rw [turnR_skip _ _ _ _ _ h33]; exact hm2, hnw2⟩
            | (refine ⟨by omega, ?_, by (repeat (first | exact Ch.refl _ | assumption | (refine Ch.fresh ?_ (by assumption) (by intro i hi he; first | exact he | (exfalso; have he2 : _ = some i := he; have := own_base (by assumption) he2; omega) | (exfalso; have he2 : i = _ := he; omega) | (exfalso; have he2 : _ = some i := he; have := ow_base (by assumption) he2; omega) | (exfalso; have := he.1; omega)))))⟩
               rw [turnR_step _ _ _ _ _ hlt3 h33, List.map_set, ← turnR_at k i (bs s) a (bs u) hlt3 h33]
               unfold b8
               rw [← b8_xor]
               assumption)
        · refine W_skip ?_
          refine ⟨⟨rfl, rfl, rfl, rfl, rfl, trivial⟩, trivial, ?_⟩
          first
            | exact ⟨by omega, by rw [turnR_skip _ _ _ _ _ h33]; exact hm2, hnw2⟩
            | (refine ⟨by omega, ?_, by (repeat (first | exact Ch.refl _ | assumption | (refine Ch.fresh ?_ (by assumption) (by intro i hi he; first | exact he | (exfalso; have he2 : _ = some i := he; have := own_base (by assumption) he2; omega) | (exfalso; have he2 : i = _ := he; omega) | (exfalso; have he2 : _ = some i := he; have := ow_base (by assumption) he2; omega) | (exfalso; have := he.1; omega)))))⟩
               rw [turnR_step _ _ _ _ _ hlt3 h33, List.map_set, ← turnR_at k i (bs s) a (bs u) hlt3 h33]
               unfold b8
               rw [← b8_xor]
               assumption)
      rintro gcb3 w7 ⟨-, hCb3⟩
      refine W_region ?_
      refine L_run (.plain rfl) rfl rfl (r_move (v := .int _ _) rfl) ?_
      refine L_run (.plain rfl) rfl rfl (r_add rfl rfl (by first | exact wr_i64 (by omega) | rfl)) ?_
      refine L_run (.plain rfl) rfl rfl (r_assign (v := .int _ _) rfl) ?_
      refine L_nil ?_
      refine ⟨⟨rfl, rfl, rfl, rfl, trivial⟩, _, ?_, i + 1, rfl, ?_, rfl⟩
      · omega
      exact hCb3
    · refine W_exit ?_
      repeat (first | refine blk_hit ?_ | refine blk_miss rfl ?_)
      refine W_region ?_
      obtain rfl : i = s.size := by omega
      refine L_run (.plain rfl) rfl rfl (r_move (v := .int _ _) rfl) ?_
      refine L_run (.plain rfl) rfl rfl (r_add rfl rfl (by first | exact wr_i64 (by omega) | rfl)) ?_
      refine L_run (.plain rfl) rfl rfl (r_assign (v := .int _ _) rfl) ?_
      refine L_nil ?_
      refine ⟨⟨rfl, rfl, rfl, trivial⟩, _, ?_, k + 1, rfl, ?_, rfl⟩
      · omega
      refine ⟨by omega, ?_, hnw2⟩
      rw [← turnR_row, bs_length]; exact hm2
  · refine W_exit ?_
    repeat (first | refine blk_hit ?_ | refine blk_miss rfl ?_)
    refine W_seq ?_
    refine W_region ?_
    obtain rfl : k = u.size := by omega
    have e1 := turnR_end (bs s) a (bs u)
    rw [bs_length] at e1
    rw [e1] at hm
    have hs := Mu.sl hm
    have hb45 : By w2 v11 (turn (bs s) a (bs u)) := by
      unfold By
      rw [show (turn (bs s) a (bs u)).length = s.size by unfold turn; rw [turnK_length, bs_length]]
      exact hs
    refine L_run (.plain rfl) rfl rfl (r_move (by conv => lhs; whnf)) ?_
    refine L_run (.plain rfl) rfl rfl (r_bstr Try.underlying31 Try.underlying5 Try.underlying9 (by conv => lhs; whnf) (by (exact Sl.to (by first | assumption | exact Sl.own (by assumption) | exact Mu.sl (by assumption) | exact Ow.sl (by assumption)) (fun i hi => by (repeat (first | exact Sm.refl _ _ | (refine Sm.stepT (by assumption) (by intro hlt hsm; first | exact not_no | (intro he; have he2 : _ = some _ := he; have := own_base (by assumption) he2; omega) | (intro he; have he2 : _ = _ := he; omega) | (intro he; have he2 : _ = some _ := he; have := ow_base (by assumption) he2; omega) | (intro he; have := he.1; omega) | exact bk_not (by assumption) hsm rfl | (refine own_not ?_ hi hsm rfl <;> assumption) | (refine ow_not ?_ hi hsm rfl <;> assumption) | (intro he; have he2 : _ = some _ := he; have := Ow.lt (by assumption) he2; omega) | (intro he; have he2 : _ = some _ := he; have := Ow.lt (by assumption) he2; have := own_base (by assumption) hi; omega) | (intro he; have he2 : _ = some _ := he; have := Ow.lt how he2; first | omega | (have := own_base (by assumption) hi; omega)) | (intro he; have he2 : _ = _ := he; have := own_base (by assumption) hi; omega) | (intro he; have he2 : _ = _ := he; have := ow_base (by assumption) hi; omega) | (intro he; have he2 : _ = _ := he; rw [he2] at hi; exact absurd hi (by assumption)) | (intro he; have he2 : _ = some _ := he; have h3 := own_lt (by assumption) he2; first | omega | (have h4 : _ = some _ := hi; simp [Value.ownBlock] at h4; omega)) | (intro he; have he2 : _ = some _ := he; have h3 := ow_base (by assumption) he2; have h4 : _ = some _ := hi; simp [Value.ownBlock] at h4; omega) | (intro he; have he2 : _ = some _ := he; exact absurd he2 (hsep _ hi)) | (intro he; first | exact absurd he (by assumption) | exact absurd he.symm (by assumption))) ?_))))))) ?_
    refine L_run (.plain rfl) rfl rfl (r_assign (v := .string _) rfl) ?_
    refine L_nil ?_
    refine W_ret ?_
    refine ret1 (v := .string _) rfl rfl ?_
    exact ⟨rfl, hnw⟩
theorem turn_length (l : List UInt8) (a : Int) (b : List UInt8) : (turn l a b).length = l.length := turnK_length _ _ _ _
theorem turn_by {w : World} {base : Nat} {r : Value} {l b : List UInt8} {a : Int} (h : w.ownsRow base 5 1 r l.length ((turn l a b).map b8)) : By w r (turn l a b) := by
  unfold By
  rw [turn_length]
  exact Sl.own h
theorem own_by {w : World} {base : Nat} {r : Value} {l : List UInt8} {n : Nat} (h : w.ownsRow base 5 1 r n (l.map b8)) (hn : n = l.length) : By w r l := by
  subst hn; exact Sl.own h
end Go.Proofs.Ytplkjhoadnjkmaa

