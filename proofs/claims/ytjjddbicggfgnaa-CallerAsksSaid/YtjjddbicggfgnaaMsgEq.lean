/- Messages. -/
import Derived.Test.YtjjddbicggfgnaaKind
namespace Go.Proofs.Ytjjddbicggfgnaa
open Go Go.RowKit
set_option linter.unusedVariables false
set_option maxRecDepth 100000
set_option linter.unusedSimpArgs false
theorem eqMsg (k l s b o w k' l' s' b' o' w' : Int) (m d m' d' : ByteArray) (W : World) :
    (Op.equal 33 (.agg #[.int .i64 k, .int .u64 l, .int .u64 s, .int .u64 b, .int .u64 o, .string m, .int .i64 w, .string d]) (.agg #[.int .i64 k', .int .u64 l', .int .u64 s', .int .u64 b', .int .u64 o', .string m', .int .i64 w', .string d'])).run Try.prog W =
      .ok (decide (k = k' ∧ l = l' ∧ s = s' ∧ b = b' ∧ o = o' ∧ m = m' ∧ w = w' ∧ d = d')) W := by
  rw [eq_struct Try.underlying33 (by kernel_rfl)]
  refine (eqF_cons (by decide) (by kernel_rfl) rfl rfl (eqI_int Try.underlying3) (eqF_cons (by decide) (by kernel_rfl) rfl rfl (eqI_int Try.underlying26) (eqF_cons (by decide) (by kernel_rfl) rfl rfl (eqI_int Try.underlying26) (eqF_cons (by decide) (by kernel_rfl) rfl rfl (eqI_int Try.underlying26) (eqF_cons (by decide) (by kernel_rfl) rfl rfl (eqI_int Try.underlying26) (eqF_cons (by decide) (by kernel_rfl) rfl rfl (eqI_string Try.underlying9) (eqF_cons (by decide) (by kernel_rfl) rfl rfl (eqI_int Try.underlying3) (eqF_cons (by decide) (by kernel_rfl) rfl rfl (eqI_string Try.underlying9) eqF_nil)))))))).trans ?_
  congr 1
  by_cases h : k = k' ∧ l = l' ∧ s = s' ∧ b = b' ∧ o = o' ∧ m = m' ∧ w = w' ∧ d = d'
  · rw [decide_eq_true h, decide_eq_true (by simpa using h)]
  · rw [decide_eq_false h, decide_eq_false (by simpa using h)]
structure Msg where
  kind : Int
  life : Int
  seq : Int
  below : Int
  object : Int
  method : ByteArray
  way : Int
  body : ByteArray
abbrev Msg.v (m : Msg) : Value := .agg #[.int .i64 m.kind, .int .u64 m.life, .int .u64 m.seq, .int .u64 m.below, .int .u64 m.object, .string m.method, .int .i64 m.way, .string m.body]
def noS : ByteArray := { data := #[] }
def Msg.zero : Msg := ⟨0, 0, 0, 0, 0, { data := #[] }, 0, { data := #[] }⟩
def rightP (m : Msg) : Prop := m.life ≠ 0 ∧ m.seq ≠ 0 ∧ ((m.kind = 0 ∧ 0 < m.below ∧ m.below ≤ m.seq ∧ nameP m.method ∧ ¬ classP m.method ∧ m.way = 0) ∨ (m.kind = 1 ∧ m.below = 0 ∧ m.object = 0 ∧ m.method = { data := #[] } ∧ 0 ≤ m.way ∧ m.way ≤ 2))
instance (m : Msg) : Decidable (rightP m) := inferInstanceAs (Decidable (_ ∧ _ ∧ (_ ∨ _)))
def checkC (m : Msg) : Int := if 8192 < m.body.size then 141 else if rightP m then 0 else 140
/-- Numbers are in their ranges. -/
structure Msg.ok (m : Msg) : Prop where
  life : 0 ≤ m.life ∧ m.life ≤ 18446744073709551615
  seq : 0 ≤ m.seq ∧ m.seq ≤ 18446744073709551615
  below : 0 ≤ m.below ∧ m.below ≤ 18446744073709551615
  object : 0 ≤ m.object ∧ m.object ≤ 18446744073709551615
theorem right_walk (m : Msg) (w0 : World) : Does Try.prog 36 #[m.v] w0 (fun r w' => r = .bool (decide (rightP m)) ∧ Nw w0 w') := by
  refine fn_of (n := 64) (args := [m.v]) Try.func36 rfl rfl rfl ?_
  refine W_seq ?_
  refine W_region ?_
  refine L_new (.plain rfl) rfl rfl (r_boxa rfl) (fun w1 b1 hb1 eb1 hs1 c1 => ?_)
  refine L_r (r_ab rfl) ?_
  refine L_nil ?_
  refine W_seq ?_
  refine W_seq ?_
  refine W_region ?_
  refine L_r (r_fieldb Try.underlying33 rfl (show _ = some 1 from rfl) rfl rfl (show _ = 1 from rfl)) ?_
  refine L_r (r_lb rfl rfl) ?_
  refine L_r (r_eql rfl rfl) ?_
  refine L_r (r_mb rfl) ?_
  refine L_case (d := 6) rfl (fun h6 => ?_) (fun h6 => ?_)
  · refine L_ps ?_
    refine L_ps ?_
    refine L_ps ?_
    refine L_r (r_pt rfl rfl) ?_
    refine L_nil ?_
    refine W_true rfl ?_
    refine W_seq ?_
    refine W_region ?_
    refine L_r (r_ab rfl) ?_
    refine L_nil ?_
    refine W_ret ?_
    refine ret1 (v := .bool _) rfl rfl ?_
    refine ⟨?_, Ch.au⟩
    (try simp only [decide_eq_true_eq, decide_eq_false_iff_not, Bool.not_eq_true', Bool.not_eq_false', Bool.not_eq_true, Bool.not_eq_false, true_and, and_true] at *)
    first
      | (apply bool_f; unfold rightP; rintro ⟨k1, k2, ⟨k3, k4, k5, k6, k7, k8⟩ | ⟨k3, k4, k5, k6, k7, k8⟩⟩ <;> first | omega | contradiction | simp_all)
      | (apply bool_dec; unfold rightP; constructor
         · intro hh; first | (refine ⟨by omega, by omega, .inl ⟨by omega, by omega, by omega, by assumption, by assumption, by omega⟩⟩) | (refine ⟨by omega, by omega, .inr ⟨by omega, by omega, by omega, by first | assumption | simp_all, by omega, by omega⟩⟩)
         · rintro ⟨k1, k2, ⟨k3, k4, k5, k6, k7, k8⟩ | ⟨k3, k4, k5, k6, k7, k8⟩⟩ <;> first | omega | contradiction | simp_all)
  · refine L_g (r_fieldb Try.underlying33 rfl (show _ = some 1 from rfl) rfl rfl (show _ = 2 from rfl)) ?_
    refine L_g (r_lb rfl rfl) ?_
    refine L_g (r_eql rfl rfl) ?_
    refine L_r (r_pf rfl rfl) ?_
    refine L_nil ?_
    refine W_if rfl (fun h10 => ?_) (fun h10 => ?_)
    · refine W_seq ?_
      refine W_region ?_
      refine L_r (r_ab rfl) ?_
      refine L_nil ?_
      refine W_ret ?_
      refine ret1 (v := .bool _) rfl rfl ?_
      refine ⟨?_, Ch.au⟩
      (try simp only [decide_eq_true_eq, decide_eq_false_iff_not, Bool.not_eq_true', Bool.not_eq_false', Bool.not_eq_true, Bool.not_eq_false, true_and, and_true] at *)
      first
        | (apply bool_f; unfold rightP; rintro ⟨k1, k2, ⟨k3, k4, k5, k6, k7, k8⟩ | ⟨k3, k4, k5, k6, k7, k8⟩⟩ <;> first | omega | contradiction | simp_all)
        | (apply bool_dec; unfold rightP; constructor
           · intro hh; first | (refine ⟨by omega, by omega, .inl ⟨by omega, by omega, by omega, by assumption, by assumption, by omega⟩⟩) | (refine ⟨by omega, by omega, .inr ⟨by omega, by omega, by omega, by first | assumption | simp_all, by omega, by omega⟩⟩)
           · rintro ⟨k1, k2, ⟨k3, k4, k5, k6, k7, k8⟩ | ⟨k3, k4, k5, k6, k7, k8⟩⟩ <;> first | omega | contradiction | simp_all)
    · refine W_skip ?_
      refine W_seq ?_
      refine W_seq ?_
      refine W_region ?_
      refine L_r (r_fieldb Try.underlying33 rfl (show _ = some 1 from rfl) rfl rfl (show _ = 0 from rfl)) ?_
      refine L_r (r_lb rfl rfl) ?_
      refine L_nil ?_
      refine W_block ?_
      refine W_seq ?_
      refine W_region ?_
      refine L_r (r_eql rfl rfl) ?_
      refine L_r (r_ab rfl) ?_
      refine L_nil ?_
      refine W_if rfl (fun h13 => ?_) (fun h13 => ?_)
      · refine W_seq ?_
        refine W_region ?_
        refine L_r (r_fieldb Try.underlying33 rfl (show _ = some 1 from rfl) rfl rfl (show _ = 3 from rfl)) ?_
        refine L_r (r_lb rfl rfl) ?_
        refine L_r (r_gtr rfl rfl) ?_
        refine L_r (r_mb rfl) ?_
        refine L_case (d := 18) rfl (fun h18 => ?_) (fun h18 => ?_)
        · refine L_g (r_fieldb Try.underlying33 rfl (show _ = some 1 from rfl) rfl rfl (show _ = 3 from rfl)) ?_
          refine L_g (r_lb rfl rfl) ?_
          refine L_g (r_fieldb Try.underlying33 rfl (show _ = some 1 from rfl) rfl rfl (show _ = 2 from rfl)) ?_
          refine L_g (r_lb rfl rfl) ?_
          refine L_g (r_leq rfl rfl) ?_
          refine L_r (r_pt rfl rfl) ?_
          refine L_r (r_mb rfl) ?_
          refine L_case (d := 25) rfl (fun h25 => ?_) (fun h25 => ?_)
          · refine L_g (r_fieldb Try.underlying33 rfl (show _ = some 1 from rfl) rfl rfl (show _ = 5 from rfl)) ?_
            refine L_g (r_lb rfl rfl) ?_
            refine L_call (.yes 10 true rfl rfl) rfl rfl (r_call Try.func39 rfl rfl rfl (by rfl)) (name_walk m.method _) ?_
            rintro v28 w2 ⟨rfl, c2⟩
            have hz2 := c2.size
            refine L_r (r_pt rfl rfl) ?_
            refine L_r (r_mb rfl) ?_
            refine L_caseb (d := 30) rfl (fun h30 => ?_) (fun h30 => ?_)
            · refine L_g (r_fieldb Try.underlying33 rfl (show _ = some 1 from rfl) rfl rfl (show _ = 5 from rfl)) ?_
              refine L_g (r_lb rfl rfl) ?_
              refine L_call (.yes 15 true rfl rfl) rfl rfl (r_call Try.func40 rfl rfl rfl (by rfl)) (class_walk m.method _) ?_
              rintro v33 w3 ⟨rfl, c3⟩
              have hz3 := c3.size
              refine L_g (r_not rfl) ?_
              refine L_r (r_pt rfl rfl) ?_
              refine L_r (r_mb rfl) ?_
              refine L_caseb (d := 36) rfl (fun h36 => ?_) (fun h36 => ?_)
              · refine L_g (r_fieldb Try.underlying33 rfl (show _ = some 1 from rfl) rfl rfl (show _ = 6 from rfl)) ?_
                refine L_g (r_lb rfl rfl) ?_
                refine L_g (r_eql rfl rfl) ?_
                refine L_r (r_pt rfl rfl) ?_
                refine L_r (r_ab rfl) ?_
                refine L_nil ?_
                refine W_ret ?_
                refine ret1 (v := .bool _) rfl rfl ?_
                refine ⟨?_, Ch.au⟩
                (try simp only [decide_eq_true_eq, decide_eq_false_iff_not, Bool.not_eq_true', Bool.not_eq_false', Bool.not_eq_true, Bool.not_eq_false, true_and, and_true] at *)
                first
                  | (apply bool_f; unfold rightP; rintro ⟨k1, k2, ⟨k3, k4, k5, k6, k7, k8⟩ | ⟨k3, k4, k5, k6, k7, k8⟩⟩ <;> first | omega | contradiction | simp_all)
                  | (apply bool_dec; unfold rightP; constructor
                     · intro hh; first | (refine ⟨by omega, by omega, .inl ⟨by omega, by omega, by omega, by assumption, by assumption, by omega⟩⟩) | (refine ⟨by omega, by omega, .inr ⟨by omega, by omega, by omega, by first | assumption | simp_all, by omega, by omega⟩⟩)
                     · rintro ⟨k1, k2, ⟨k3, k4, k5, k6, k7, k8⟩ | ⟨k3, k4, k5, k6, k7, k8⟩⟩ <;> first | omega | contradiction | simp_all)
              · refine L_ps ?_
                refine L_ps ?_
                refine L_ps ?_
                refine L_r (r_pf rfl rfl) ?_
                refine L_r (r_ab rfl) ?_
                refine L_nil ?_
                refine W_ret ?_
                refine ret1 (v := .bool _) rfl rfl ?_
                refine ⟨?_, Ch.au⟩
                (try simp only [decide_eq_true_eq, decide_eq_false_iff_not, Bool.not_eq_true', Bool.not_eq_false', Bool.not_eq_true, Bool.not_eq_false, true_and, and_true] at *)
                first
                  | (apply bool_f; unfold rightP; rintro ⟨k1, k2, ⟨k3, k4, k5, k6, k7, k8⟩ | ⟨k3, k4, k5, k6, k7, k8⟩⟩ <;> first | omega | contradiction | simp_all)
                  | (apply bool_dec; unfold rightP; constructor
                     · intro hh; first | (refine ⟨by omega, by omega, .inl ⟨by omega, by omega, by omega, by assumption, by assumption, by omega⟩⟩) | (refine ⟨by omega, by omega, .inr ⟨by omega, by omega, by omega, by first | assumption | simp_all, by omega, by omega⟩⟩)
                     · rintro ⟨k1, k2, ⟨k3, k4, k5, k6, k7, k8⟩ | ⟨k3, k4, k5, k6, k7, k8⟩⟩ <;> first | omega | contradiction | simp_all)
            · refine L_ps ?_
              refine L_ps ?_
              refine L_ps ?_
              refine L_ps ?_
              refine L_r (r_pf rfl rfl) ?_
              refine L_r (r_mb rfl) ?_
              refine L_ps ?_
              refine L_ps ?_
              refine L_ps ?_
              refine L_r (r_pf rfl rfl) ?_
              refine L_r (r_ab rfl) ?_
              refine L_nil ?_
              refine W_ret ?_
              refine ret1 (v := .bool _) rfl rfl ?_
              refine ⟨?_, Ch.au⟩
              (try simp only [decide_eq_true_eq, decide_eq_false_iff_not, Bool.not_eq_true', Bool.not_eq_false', Bool.not_eq_true, Bool.not_eq_false, true_and, and_true] at *)
              first
                | (apply bool_f; unfold rightP; rintro ⟨k1, k2, ⟨k3, k4, k5, k6, k7, k8⟩ | ⟨k3, k4, k5, k6, k7, k8⟩⟩ <;> first | omega | contradiction | simp_all)
                | (apply bool_dec; unfold rightP; constructor
                   · intro hh; first | (refine ⟨by omega, by omega, .inl ⟨by omega, by omega, by omega, by assumption, by assumption, by omega⟩⟩) | (refine ⟨by omega, by omega, .inr ⟨by omega, by omega, by omega, by first | assumption | simp_all, by omega, by omega⟩⟩)
                   · rintro ⟨k1, k2, ⟨k3, k4, k5, k6, k7, k8⟩ | ⟨k3, k4, k5, k6, k7, k8⟩⟩ <;> first | omega | contradiction | simp_all)
          · refine L_ps ?_
            refine L_ps ?_
            refine L_ps ?_
            refine L_r (r_pf rfl rfl) ?_
            refine L_r (r_mb rfl) ?_
            refine L_ps ?_
            refine L_ps ?_
            refine L_ps ?_
            refine L_ps ?_
            refine L_r (r_pf rfl rfl) ?_
            refine L_r (r_mb rfl) ?_
            refine L_ps ?_
            refine L_ps ?_
            refine L_ps ?_
            refine L_r (r_pf rfl rfl) ?_
            refine L_r (r_ab rfl) ?_
            refine L_nil ?_
            refine W_ret ?_
            refine ret1 (v := .bool _) rfl rfl ?_
            refine ⟨?_, Ch.au⟩
            (try simp only [decide_eq_true_eq, decide_eq_false_iff_not, Bool.not_eq_true', Bool.not_eq_false', Bool.not_eq_true, Bool.not_eq_false, true_and, and_true] at *)
            first
              | (apply bool_f; unfold rightP; rintro ⟨k1, k2, ⟨k3, k4, k5, k6, k7, k8⟩ | ⟨k3, k4, k5, k6, k7, k8⟩⟩ <;> first | omega | contradiction | simp_all)
              | (apply bool_dec; unfold rightP; constructor
                 · intro hh; first | (refine ⟨by omega, by omega, .inl ⟨by omega, by omega, by omega, by assumption, by assumption, by omega⟩⟩) | (refine ⟨by omega, by omega, .inr ⟨by omega, by omega, by omega, by first | assumption | simp_all, by omega, by omega⟩⟩)
                 · rintro ⟨k1, k2, ⟨k3, k4, k5, k6, k7, k8⟩ | ⟨k3, k4, k5, k6, k7, k8⟩⟩ <;> first | omega | contradiction | simp_all)
        · refine L_ps ?_
          refine L_ps ?_
          refine L_ps ?_
          refine L_ps ?_
          refine L_ps ?_
          refine L_r (r_pf rfl rfl) ?_
          refine L_r (r_mb rfl) ?_
          refine L_ps ?_
          refine L_ps ?_
          refine L_ps ?_
          refine L_r (r_pf rfl rfl) ?_
          refine L_r (r_mb rfl) ?_
          refine L_ps ?_
          refine L_ps ?_
          refine L_ps ?_
          refine L_ps ?_
          refine L_r (r_pf rfl rfl) ?_
          refine L_r (r_mb rfl) ?_
          refine L_ps ?_
          refine L_ps ?_
          refine L_ps ?_
          refine L_r (r_pf rfl rfl) ?_
          refine L_r (r_ab rfl) ?_
          refine L_nil ?_
          refine W_ret ?_
          refine ret1 (v := .bool _) rfl rfl ?_
          refine ⟨?_, Ch.au⟩
          (try simp only [decide_eq_true_eq, decide_eq_false_iff_not, Bool.not_eq_true', Bool.not_eq_false', Bool.not_eq_true, Bool.not_eq_false, true_and, and_true] at *)
          first
            | (apply bool_f; unfold rightP; rintro ⟨k1, k2, ⟨k3, k4, k5, k6, k7, k8⟩ | ⟨k3, k4, k5, k6, k7, k8⟩⟩ <;> first | omega | contradiction | simp_all)
            | (apply bool_dec; unfold rightP; constructor
               · intro hh; first | (refine ⟨by omega, by omega, .inl ⟨by omega, by omega, by omega, by assumption, by assumption, by omega⟩⟩) | (refine ⟨by omega, by omega, .inr ⟨by omega, by omega, by omega, by first | assumption | simp_all, by omega, by omega⟩⟩)
               · rintro ⟨k1, k2, ⟨k3, k4, k5, k6, k7, k8⟩ | ⟨k3, k4, k5, k6, k7, k8⟩⟩ <;> first | omega | contradiction | simp_all)
      · refine W_seq ?_
        refine W_region ?_
        refine L_r (r_eql rfl rfl) ?_
        refine L_r (r_ab rfl) ?_
        refine L_nil ?_
        refine W_if rfl (fun h41 => ?_) (fun h41 => ?_)
        · refine W_seq ?_
          refine W_region ?_
          refine L_r (r_loadrow Try.underlying33 rfl rfl Bk.au (by first | rfl | assumption)) ?_
          refine L_r (r_fieldb Try.underlying33 rfl (show _ = some 1 from rfl) rfl rfl (show _ = 1 from rfl)) ?_
          refine L_r (r_lb rfl rfl) ?_
          refine L_r (r_fieldb Try.underlying33 rfl (show _ = some 1 from rfl) rfl rfl (show _ = 2 from rfl)) ?_
          refine L_r (r_lb rfl rfl) ?_
          refine L_r (r_fieldb Try.underlying33 rfl (show _ = some 1 from rfl) rfl rfl (show _ = 6 from rfl)) ?_
          refine L_r (r_lb rfl rfl) ?_
          refine L_r (r_fieldb Try.underlying33 rfl (show _ = some 1 from rfl) rfl rfl (show _ = 7 from rfl)) ?_
          refine L_r (r_lb rfl rfl) ?_
          refine L_r (r_build1 (pl := [(0, 1), (1, 1), (2, 1), (3, 1), (4, 1), (5, 1), (6, 1), (7, 1)]) (vs := [(0, .int _ _), (1, .int _ _), (2, .int _ _), (6, .int _ _), (7, .string _)]) (cells := [_, _, _, _, _, _, _, _]) Try.underlying33 rfl rfl (by rfl) rfl (by rfl)) ?_
          refine L_r (r_eqlR (xs := #[.int _ _, .int _ _, .int _ _, .int _ _, .int _ _, .string _, .int _ _, .string _]) (ys := #[.int _ _, .int _ _, .int _ _, .int _ _, .int _ _, .string _, .int _ _, .string _]) rfl rfl (by kernel_rfl) (eqMsg _ _ _ _ _ _ _ _ _ _ _ _ _ _ _ _ _)) ?_
          refine L_r (r_mb rfl) ?_
          refine L_case (d := 54) rfl (fun h54 => ?_) (fun h54 => ?_)
          · refine L_g (r_fieldb Try.underlying33 rfl (show _ = some 1 from rfl) rfl rfl (show _ = 6 from rfl)) ?_
            refine L_g (r_lb rfl rfl) ?_
            refine L_g (r_geq rfl rfl) ?_
            refine L_r (r_pt rfl rfl) ?_
            refine L_r (r_mb rfl) ?_
            refine L_case (d := 59) rfl (fun h59 => ?_) (fun h59 => ?_)
            · refine L_g (r_fieldb Try.underlying33 rfl (show _ = some 1 from rfl) rfl rfl (show _ = 6 from rfl)) ?_
              refine L_g (r_lb rfl rfl) ?_
              refine L_g (r_leq rfl rfl) ?_
              refine L_r (r_pt rfl rfl) ?_
              refine L_r (r_ab rfl) ?_
              refine L_nil ?_
              refine W_ret ?_
              refine ret1 (v := .bool _) rfl rfl ?_
              refine ⟨?_, Ch.au⟩
              (try simp only [decide_eq_true_eq, decide_eq_false_iff_not, Bool.not_eq_true', Bool.not_eq_false', Bool.not_eq_true, Bool.not_eq_false, true_and, and_true] at *)
              first
                | (apply bool_f; unfold rightP; rintro ⟨k1, k2, ⟨k3, k4, k5, k6, k7, k8⟩ | ⟨k3, k4, k5, k6, k7, k8⟩⟩ <;> first | omega | contradiction | simp_all)
                | (apply bool_dec; unfold rightP; constructor
                   · intro hh; first | (refine ⟨by omega, by omega, .inl ⟨by omega, by omega, by omega, by assumption, by assumption, by omega⟩⟩) | (refine ⟨by omega, by omega, .inr ⟨by omega, by omega, by omega, by first | assumption | simp_all, by omega, by omega⟩⟩)
                   · rintro ⟨k1, k2, ⟨k3, k4, k5, k6, k7, k8⟩ | ⟨k3, k4, k5, k6, k7, k8⟩⟩ <;> first | omega | contradiction | simp_all)
            · refine L_ps ?_
              refine L_ps ?_
              refine L_ps ?_
              refine L_r (r_pf rfl rfl) ?_
              refine L_r (r_ab rfl) ?_
              refine L_nil ?_
              refine W_ret ?_
              refine ret1 (v := .bool _) rfl rfl ?_
              refine ⟨?_, Ch.au⟩
              (try simp only [decide_eq_true_eq, decide_eq_false_iff_not, Bool.not_eq_true', Bool.not_eq_false', Bool.not_eq_true, Bool.not_eq_false, true_and, and_true] at *)
              first
                | (apply bool_f; unfold rightP; rintro ⟨k1, k2, ⟨k3, k4, k5, k6, k7, k8⟩ | ⟨k3, k4, k5, k6, k7, k8⟩⟩ <;> first | omega | contradiction | simp_all)
                | (apply bool_dec; unfold rightP; constructor
                   · intro hh; first | (refine ⟨by omega, by omega, .inl ⟨by omega, by omega, by omega, by assumption, by assumption, by omega⟩⟩) | (refine ⟨by omega, by omega, .inr ⟨by omega, by omega, by omega, by first | assumption | simp_all, by omega, by omega⟩⟩)
                   · rintro ⟨k1, k2, ⟨k3, k4, k5, k6, k7, k8⟩ | ⟨k3, k4, k5, k6, k7, k8⟩⟩ <;> first | omega | contradiction | simp_all)
          · refine L_ps ?_
            refine L_ps ?_
            refine L_ps ?_
            refine L_r (r_pf rfl rfl) ?_
            refine L_r (r_mb rfl) ?_
            refine L_ps ?_
            refine L_ps ?_
            refine L_ps ?_
            refine L_r (r_pf rfl rfl) ?_
            refine L_r (r_ab rfl) ?_
            refine L_nil ?_
            refine W_ret ?_
            refine ret1 (v := .bool _) rfl rfl ?_
            refine ⟨?_, Ch.au⟩
            (try simp only [decide_eq_true_eq, decide_eq_false_iff_not, Bool.not_eq_true', Bool.not_eq_false', Bool.not_eq_true, Bool.not_eq_false, true_and, and_true] at *)
            first
              | (apply bool_f; unfold rightP; rintro ⟨k1, k2, ⟨k3, k4, k5, k6, k7, k8⟩ | ⟨k3, k4, k5, k6, k7, k8⟩⟩ <;> first | omega | contradiction | simp_all)
              | (apply bool_dec; unfold rightP; constructor
                 · intro hh; first | (refine ⟨by omega, by omega, .inl ⟨by omega, by omega, by omega, by assumption, by assumption, by omega⟩⟩) | (refine ⟨by omega, by omega, .inr ⟨by omega, by omega, by omega, by first | assumption | simp_all, by omega, by omega⟩⟩)
                 · rintro ⟨k1, k2, ⟨k3, k4, k5, k6, k7, k8⟩ | ⟨k3, k4, k5, k6, k7, k8⟩⟩ <;> first | omega | contradiction | simp_all)
        · refine W_skip ?_
          refine W_seq ?_
          refine W_region ?_
          refine L_r (r_ab rfl) ?_
          refine L_nil ?_
          refine W_ret ?_
          refine ret1 (v := .bool _) rfl rfl ?_
          refine ⟨?_, Ch.au⟩
          (try simp only [decide_eq_true_eq, decide_eq_false_iff_not, Bool.not_eq_true', Bool.not_eq_false', Bool.not_eq_true, Bool.not_eq_false, true_and, and_true] at *)
          first
            | (apply bool_f; unfold rightP; rintro ⟨k1, k2, ⟨k3, k4, k5, k6, k7, k8⟩ | ⟨k3, k4, k5, k6, k7, k8⟩⟩ <;> first | omega | contradiction | simp_all)
            | (apply bool_dec; unfold rightP; constructor
               · intro hh; first | (refine ⟨by omega, by omega, .inl ⟨by omega, by omega, by omega, by assumption, by assumption, by omega⟩⟩) | (refine ⟨by omega, by omega, .inr ⟨by omega, by omega, by omega, by first | assumption | simp_all, by omega, by omega⟩⟩)
               · rintro ⟨k1, k2, ⟨k3, k4, k5, k6, k7, k8⟩ | ⟨k3, k4, k5, k6, k7, k8⟩⟩ <;> first | omega | contradiction | simp_all)
theorem check_walk (m : Msg) (w0 : World) : Does Try.prog 26 #[m.v] w0 (fun r w' => r = .int .i64 (checkC m) ∧ Nw w0 w') := by
  refine fn_of (n := 12) (args := [m.v]) Try.func26 rfl rfl rfl ?_
  refine W_seq ?_
  refine W_region ?_
  refine L_new (.plain rfl) rfl rfl (r_boxa rfl) (fun w1 b1 hb1 eb1 hs1 c1 => ?_)
  refine L_r (r_ai rfl) ?_
  refine L_nil ?_
  refine W_seq ?_
  refine W_block ?_
  refine W_seq ?_
  refine W_region ?_
  refine L_r (r_fieldb Try.underlying33 rfl (show _ = some 1 from rfl) rfl rfl (show _ = 7 from rfl)) ?_
  refine L_r (r_lb rfl rfl) ?_
  refine L_r (r_lens Try.underlying9 rfl) ?_
  refine L_r (r_gtr rfl rfl) ?_
  refine L_r (r_ab rfl) ?_
  refine L_nil ?_
  refine W_if rfl (fun h3 => ?_) (fun h3 => ?_)
  · refine W_seq ?_
    refine W_region ?_
    refine L_r (r_ai rfl) ?_
    refine L_nil ?_
    refine W_ret ?_
    refine ret1 (v := .int _ _) rfl rfl ?_
    first
      | exact ⟨by unfold checkC; rw [if_pos (by omega)], Ch.au⟩
      | exact ⟨by simp only [Bool.not_eq_true', decide_eq_false_iff_not] at h8; unfold checkC; rw [if_neg (by omega), if_neg h8], Ch.au⟩
      | exact ⟨by simp only [Bool.not_eq_false', decide_eq_true_eq] at h8; unfold checkC; rw [if_neg (by omega), if_pos h8], Ch.au⟩
  · refine W_seq ?_
    refine W_region ?_
    refine L_r (r_loadrow Try.underlying33 rfl rfl Bk.au (by first | rfl | assumption)) ?_
    refine L_call (.plain rfl) rfl rfl (r_call Try.func36 rfl rfl rfl (by rfl)) (right_walk m _) ?_
    rintro v10 w2 ⟨rfl, c2⟩
    have hz2 := c2.size
    refine L_r (r_not rfl) ?_
    refine L_r (r_ab rfl) ?_
    refine L_nil ?_
    refine W_bool rfl (fun h8 => ?_) (fun h8 => ?_)
    · refine W_seq ?_
      refine W_region ?_
      refine L_r (r_ai rfl) ?_
      refine L_nil ?_
      refine W_ret ?_
      refine ret1 (v := .int _ _) rfl rfl ?_
      first
        | exact ⟨by unfold checkC; rw [if_pos (by omega)], Ch.au⟩
        | exact ⟨by simp only [Bool.not_eq_true', decide_eq_false_iff_not] at h8; unfold checkC; rw [if_neg (by omega), if_neg h8], Ch.au⟩
        | exact ⟨by simp only [Bool.not_eq_false', decide_eq_true_eq] at h8; unfold checkC; rw [if_neg (by omega), if_pos h8], Ch.au⟩
    · refine W_skip ?_
      refine W_seq ?_
      refine W_region ?_
      refine L_r (r_ai rfl) ?_
      refine L_nil ?_
      refine W_ret ?_
      refine ret1 (v := .int _ _) rfl rfl ?_
      first
        | exact ⟨by unfold checkC; rw [if_pos (by omega)], Ch.au⟩
        | exact ⟨by simp only [Bool.not_eq_true', decide_eq_false_iff_not] at h8; unfold checkC; rw [if_neg (by omega), if_neg h8], Ch.au⟩
        | exact ⟨by simp only [Bool.not_eq_false', decide_eq_true_eq] at h8; unfold checkC; rw [if_neg (by omega), if_pos h8], Ch.au⟩
end Go.Proofs.Ytjjddbicggfgnaa

