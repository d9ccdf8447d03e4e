/- Parts of the proof (ClsO, ClsP, ClsQ, ClsR, ClsS, ClsT, ClsU, ClsV). -/
import Derived.Test.YthpknpfhpkkheaaGreatDoorMGf
import Derived.Shelf.Strings.OnBuilder
namespace Go.Proofs.YthpknpfhpkkheaaGreatDoor
open Go Go.RowKit
set_option linter.unusedVariables false
set_option linter.unusedSimpArgs false
set_option maxRecDepth 100000
noncomputable instance (m : Mth) : Decidable (mthP m) := Classical.propDecidable _
noncomputable instance (c : Cls) : Decidable (clsP c) := Classical.propDecidable _
noncomputable instance (c : Cls) : Decidable (manyP c) := Classical.propDecidable _
abbrev lim : Nat := 1000000000000000
/-- Texts and lists that are not too great for a machine. -/
structure Mth.sz (m : Mth) : Prop where
  name : m.name.size ≤ 1000000000000000
  params : ∀ p ∈ m.params, p.size ≤ 1000000000000000
  result : m.result.size ≤ 1000000000000000
  code : ∀ x ∈ m.code, x.s.size ≤ 1000000000000000
  cats : ∀ x ∈ m.cats, x.cls.size ≤ 1000000000000000
  lp : m.params.length ≤ 1000000000000000
  lc : m.code.length ≤ 1000000000000000
  lk : m.cats.length ≤ 1000000000000000
structure Cls.sz (c : Cls) : Prop where
  name : c.name.size ≤ 1000000000000000
  super : c.super.size ≤ 1000000000000000
  like : ∀ p ∈ c.like, p.size ≤ 1000000000000000
  fields : ∀ f ∈ c.fields, f.name.size ≤ 1000000000000000 ∧ f.kind.size ≤ 1000000000000000
  ms : ∀ m ∈ c.ms, m.sz
  ll : c.like.length ≤ 140737488355328
  lf : c.fields.length ≤ 140737488355328
  lm : c.ms.length ≤ 140737488355328
theorem member_walk (s : ByteArray) (w0 : World) : Does Tryz.prog 67 #[.string s] w0 (fun r w' => r = .bool (decide (memP s)) ∧ Nw w0 w') := by
  refine fn_of (n := 10) (args := [.string s]) Tryz.func67 rfl rfl rfl (W_seq (W_region (L_r (r_ab rfl) (L_nil (W_seq (W_region (L_r (r_ms rfl) ?_)))))))
  refine L_call (.plain rfl) rfl rfl (r_call Tryz.func118 rfl rfl rfl (by rfl)) (name_walk s _) ?_
  rintro v4 w1 ⟨rfl, c1⟩
  have hz1 := c1.size
  refine L_r (r_mb rfl) ?_
  refine L_caseb (d := 5) rfl (fun h5 => ?_) (fun h5 => ?_)
  ·
   refine L_g (r_ms rfl) ?_
   refine L_call (.yes 2 true rfl rfl) rfl rfl (r_call Tryz.func58 rfl rfl rfl (by rfl)) (class_walk s _) ?_
   rintro v7 w2 ⟨rfl, c2⟩
   have hz2 := c2.size
   refine L_g (r_not rfl) (L_r (r_pt rfl rfl) (L_r (r_ab rfl) (L_nil (W_ret ?_))))
   refine ret1 (v := .bool _) rfl rfl ?_
   refine ⟨?_, Ch.au⟩
   (try simp only [decide_eq_true_eq, decide_eq_false_iff_not] at *)
   first
   | exact bool_f (fun h => by rw [memP_iff] at h; first | exact absurd h.1 (by assumption) | exact absurd (by assumption) h.2)
   | exact dec_b (by rw [memP_iff]; constructor; (intro k; exact ⟨by assumption, by simpa using k⟩); (rintro ⟨_, k⟩; simpa using k))
  ·
   refine L_ps (L_ps (L_ps (L_r (r_pf rfl rfl) (L_r (r_ab rfl) (L_nil (W_ret ?_))))))
   refine ret1 (v := .bool _) rfl rfl ?_
   refine ⟨?_, Ch.au⟩
   (try simp only [decide_eq_true_eq, decide_eq_false_iff_not] at *)
   first
   | exact bool_f (fun h => by rw [memP_iff] at h; first | exact absurd h.1 (by assumption) | exact absurd (by assumption) h.2)
   | exact dec_b (by rw [memP_iff]; constructor; (intro k; exact ⟨by assumption, by simpa using k⟩); (rintro ⟨_, k⟩; simpa using k))
theorem cat1_walk (x : Cat) (p n : Nat) (w0 : World) (hp : Bk w0 p #[.int .i64 (n : Int)] 3) : Does Tryz.prog 128 #[x.v, .pointer (some ⟨p, 0, none⟩)] w0 (fun r w' => r = .bool (decide (catP n x)) ∧ Nw w0 w') := by
  refine fn_of (n := 36) (args := [x.v, .pointer (some ⟨p, 0, none⟩)]) Tryz.func128 rfl rfl rfl (W_seq (W_region ?_))
  refine L_new (.plain rfl) rfl rfl (r_boxa rfl) (fun w1 b2 hb2 eb1 hs1 c1 => (L_r (r_ab rfl) (L_nil (W_seq (W_region ?_)))))
  refine L_r (r_fieldb Tryz.underlying70 rfl (show _ = some 1 from rfl) rfl rfl (show _ = 0 from rfl)) (L_r (r_lb rfl rfl) (L_r (r_geq rfl rfl) (L_r (r_mb rfl) ?_)))
  refine L_case (d := 7) rfl (fun h7 => ?_) (fun h7 => ?_)
  ·
   refine L_g (r_fieldb Tryz.underlying70 rfl (show _ = some 1 from rfl) rfl rfl (show _ = 1 from rfl)) ?_
   refine L_g (r_lb rfl rfl) ?_
   refine L_g (r_fieldb Tryz.underlying70 rfl (show _ = some 1 from rfl) rfl rfl (show _ = 0 from rfl)) ?_
   refine L_g (r_lb rfl rfl) ?_
   refine L_g (r_gtr rfl rfl) (L_r (r_pt rfl rfl) (L_r (r_mb rfl) ?_))
   refine L_case (d := 14) rfl (fun h14 => ?_) (fun h14 => ?_)
   ·
    refine L_g (r_fieldb Tryz.underlying70 rfl (show _ = some 1 from rfl) rfl rfl (show _ = 1 from rfl)) ?_
    refine L_g (r_lb rfl rfl) ?_
    refine L_g (r_lb rfl rfl) ?_
    refine L_g (r_leq rfl rfl) (L_r (r_pt rfl rfl) (L_r (r_mb rfl) ?_))
    refine L_case (d := 20) rfl (fun h20 => ?_) (fun h20 => ?_)
    ·
     refine L_g (r_fieldb Tryz.underlying70 rfl (show _ = some 1 from rfl) rfl rfl (show _ = 2 from rfl)) ?_
     refine L_g (r_lb rfl rfl) ?_
     refine L_g (r_geq rfl rfl) (L_r (r_pt rfl rfl) (L_r (r_mb rfl) ?_))
     refine L_case (d := 25) rfl (fun h25 => ?_) (fun h25 => ?_)
     ·
      refine L_g (r_fieldb Tryz.underlying70 rfl (show _ = some 1 from rfl) rfl rfl (show _ = 2 from rfl)) ?_
      refine L_g (r_lb rfl rfl) ?_
      refine L_g (r_lb rfl rfl) ?_
      refine L_g (r_lss rfl rfl) (L_r (r_pt rfl rfl) (L_r (r_mb rfl) ?_))
      refine L_case (d := 31) rfl (fun h31 => ?_) (fun h31 => ?_)
      ·
       refine L_g (r_fieldb Tryz.underlying70 rfl (show _ = some 1 from rfl) rfl rfl (show _ = 3 from rfl)) ?_
       refine L_g (r_lb rfl rfl) ?_
       refine L_call (.yes 27 true rfl rfl) rfl rfl (r_call Tryz.func58 rfl rfl rfl (by rfl)) (class_walk x.cls _) ?_
       rintro v34 w2 ⟨rfl, c2⟩
       have hz2 := c2.size
       refine L_r (r_pt rfl rfl) (L_r (r_ab rfl) (L_nil (W_ret ?_)))
       refine ret1 (v := .bool _) rfl rfl ?_
       refine ⟨?_, Ch.au⟩
       (try simp only [decide_eq_true_eq, decide_eq_false_iff_not] at *)
       first
       | exact bool_f (fun h => by obtain ⟨q1, q2, q3, q4, q5, q6⟩ := h; first | omega | exact absurd q6 (by assumption))
       | exact bool_dec ⟨fun k => ⟨by omega, by omega, by omega, by omega, by omega, k⟩, fun k => k.2.2.2.2.2⟩
      ·
       refine L_ps (L_ps (L_ps (L_r (r_pf rfl rfl) (L_r (r_ab rfl) (L_nil (W_ret ?_))))))
       refine ret1 (v := .bool _) rfl rfl ?_
       refine ⟨?_, Ch.au⟩
       (try simp only [decide_eq_true_eq, decide_eq_false_iff_not] at *)
       first
       | exact bool_f (fun h => by obtain ⟨q1, q2, q3, q4, q5, q6⟩ := h; first | omega | exact absurd q6 (by assumption))
       | exact bool_dec ⟨fun k => ⟨by omega, by omega, by omega, by omega, by omega, k⟩, fun k => k.2.2.2.2.2⟩
     ·
      refine L_ps (L_ps (L_ps (L_ps (L_r (r_pf rfl rfl) (L_r (r_mb rfl) (L_ps (L_ps (L_ps ?_))))))))
      refine L_r (r_pf rfl rfl) (L_r (r_ab rfl) (L_nil (W_ret ?_)))
      refine ret1 (v := .bool _) rfl rfl ?_
      refine ⟨?_, Ch.au⟩
      (try simp only [decide_eq_true_eq, decide_eq_false_iff_not] at *)
      first
      | exact bool_f (fun h => by obtain ⟨q1, q2, q3, q4, q5, q6⟩ := h; first | omega | exact absurd q6 (by assumption))
      | exact bool_dec ⟨fun k => ⟨by omega, by omega, by omega, by omega, by omega, k⟩, fun k => k.2.2.2.2.2⟩
    ·
     refine L_ps (L_ps (L_ps (L_r (r_pf rfl rfl) (L_r (r_mb rfl) (L_ps (L_ps (L_ps (L_ps ?_))))))))
     refine L_r (r_pf rfl rfl) (L_r (r_mb rfl) (L_ps (L_ps (L_ps (L_r (r_pf rfl rfl) (L_r (r_ab rfl) (L_nil (W_ret ?_))))))))
     refine ret1 (v := .bool _) rfl rfl ?_
     refine ⟨?_, Ch.au⟩
     (try simp only [decide_eq_true_eq, decide_eq_false_iff_not] at *)
     first
     | exact bool_f (fun h => by obtain ⟨q1, q2, q3, q4, q5, q6⟩ := h; first | omega | exact absurd q6 (by assumption))
     | exact bool_dec ⟨fun k => ⟨by omega, by omega, by omega, by omega, by omega, k⟩, fun k => k.2.2.2.2.2⟩
   ·
    refine L_ps (L_ps (L_ps (L_ps (L_r (r_pf rfl rfl) (L_r (r_mb rfl) (L_ps (L_ps (L_ps ?_))))))))
    refine L_r (r_pf rfl rfl) (L_r (r_mb rfl) (L_ps (L_ps (L_ps (L_ps (L_r (r_pf rfl rfl) (L_r (r_mb rfl) (L_ps ?_))))))))
    refine L_ps (L_ps (L_r (r_pf rfl rfl) (L_r (r_ab rfl) (L_nil (W_ret ?_)))))
    refine ret1 (v := .bool _) rfl rfl ?_
    refine ⟨?_, Ch.au⟩
    (try simp only [decide_eq_true_eq, decide_eq_false_iff_not] at *)
    first
    | exact bool_f (fun h => by obtain ⟨q1, q2, q3, q4, q5, q6⟩ := h; first | omega | exact absurd q6 (by assumption))
    | exact bool_dec ⟨fun k => ⟨by omega, by omega, by omega, by omega, by omega, k⟩, fun k => k.2.2.2.2.2⟩
  ·
   refine L_ps (L_ps (L_ps (L_ps (L_ps (L_r (r_pf rfl rfl) (L_r (r_mb rfl) (L_ps (L_ps ?_))))))))
   refine L_ps (L_ps (L_r (r_pf rfl rfl) (L_r (r_mb rfl) (L_ps (L_ps (L_ps (L_r (r_pf rfl rfl) (L_r (r_mb rfl) ?_))))))))
   refine L_ps (L_ps (L_ps (L_ps (L_r (r_pf rfl rfl) (L_r (r_mb rfl) (L_ps (L_ps (L_ps ?_))))))))
   refine L_r (r_pf rfl rfl) (L_r (r_ab rfl) (L_nil (W_ret ?_)))
   refine ret1 (v := .bool _) rfl rfl ?_
   refine ⟨?_, Ch.au⟩
   (try simp only [decide_eq_true_eq, decide_eq_false_iff_not] at *)
   first
   | exact bool_f (fun h => by obtain ⟨q1, q2, q3, q4, q5, q6⟩ := h; first | omega | exact absurd q6 (by assumption))
   | exact bool_dec ⟨fun k => ⟨by omega, by omega, by omega, by omega, by omega, k⟩, fun k => k.2.2.2.2.2⟩
theorem ins2_walk (g : Nat) (x : Ins) (w0 : World) (hG : Gv g w0) (hb : g ≤ w0.heap.size) (hs : x.s.size ≤ 1000000000000000) : Does Tryz.prog 130 #[x.v] w0 (fun r w' => r = .bool (decide (checkI x = 0)) ∧ Nw w0 w') := by
  refine fn_of (n := 6) (args := [x.v]) Tryz.func130 rfl rfl rfl (W_seq (W_region ?_))
  refine L_new (.plain rfl) rfl rfl (r_boxa rfl) (fun w1 b1 hb1 eb1 hs1 c1 => (L_r (r_ab rfl) (L_nil (W_seq (W_region ?_)))))
  refine L_r (r_loadrow Tryz.underlying54 rfl rfl Bk.au (by first | rfl | assumption)) ?_
  refine L_call (.plain rfl) rfl rfl (r_call Tryz.func131 rfl rfl rfl (by rfl)) (icheck_walk g x _ (hG.nw Ch.au hb) (by omega) hs) ?_
  rintro v4 w2 ⟨rfl, c2⟩
  have hz2 := c2.size
  refine L_r (r_eql rfl rfl) (L_r (r_ab rfl) (L_nil (W_ret ?_)))
  refine ret1 (v := .bool _) rfl rfl ?_
  exact ⟨rfl, Ch.au⟩
theorem allI_all (z : List Ins) : (z.all fun x => decide (checkI x = 0)) = true ↔ allI z = 0 := by
  constructor
  ·
   intro h
   induction z with
   | nil => rfl
   | cons x z ih =>
     rw [List.all_cons, Bool.and_eq_true] at h
     show (if checkI x ≠ 0 then checkI x else allI z) = 0
     rw [if_neg (by have := of_decide_eq_true h.1; rw [this]; decide)]
     exact ih h.2
  ·
   intro h
   exact List.all_eq_true.2 fun x hx => decide_eq_true (all_ok h x hx)
set_option maxHeartbeats 2000000 in
theorem method_walk (g : Nat) (x : MM) (w0 : World) (hG : Gv g w0) (hb : g ≤ w0.heap.size) (hx : x.ok w0) (hs : x.m.sz) : Does Tryz.prog 70 #[x.v] w0 (fun r w' => r = .bool (decide (mthP x.m)) ∧ Nw w0 w') := by
  have h1x := hx.one
  have hxw := fun W (c : Nw w0 W) => hx.nw c
  obtain ⟨bp, hbp⟩ : ∃ b, b = (x.m.params.all fun p => decide (rightK p)) := ⟨_, rfl⟩
  obtain ⟨bc, hbc⟩ : ∃ b, b = (x.m.code.all fun i => decide (checkI i = 0)) := ⟨_, rfl⟩
  obtain ⟨bk, hbk⟩ : ∃ b, b = (x.m.cats.all fun i => decide (catP x.m.code.length i)) := ⟨_, rfl⟩
  have k1 : bp = true ↔ ∀ p ∈ x.m.params, rightK p := by rw [hbp, List.all_eq_true]; simp
  have k2 : bc = true ↔ allI x.m.code = 0 := by rw [hbc]; exact allI_all _
  have k3 : bk = true ↔ ∀ i ∈ x.m.cats, catP x.m.code.length i := by rw [hbk, List.all_eq_true]; simp
  have hxp := hx.p
  have hxc := hx.c
  have hxk := hx.k
  have key1 : x.m.abs = true → (mthP x.m ↔ (memP x.m.name ∧ bp = true ∧ (x.m.result = { data := #[] } ∨ rightK x.m.result) ∧ x.m.locals = 0 ∧ (x.m.code.length : Int) = 0 ∧ (x.m.cats.length : Int) = 0)) := by
    intro ha
    unfold mthP bodyP
    rw [if_pos ha, k1]
    constructor
    · rintro ⟨q1, q2, q3, q4, q5, q6⟩; exact ⟨q1, q2, q3, q4, by rw [q5]; rfl, by rw [q6]; rfl⟩
    · rintro ⟨q1, q2, q3, q4, q5, q6⟩; exact ⟨q1, q2, q3, q4, List.length_eq_zero_iff.1 (by omega), List.length_eq_zero_iff.1 (by omega)⟩
  have key2 : x.m.abs = false → (mthP x.m ↔ (memP x.m.name ∧ bp = true ∧ (x.m.result = { data := #[] } ∨ rightK x.m.result) ∧ 0 < (x.m.code.length : Int) ∧ (x.m.params.length : Int) < x.m.locals ∧ bc = true ∧ bk = true)) := by
    intro ha
    unfold mthP bodyP
    rw [if_neg (by rw [ha]; decide), k1, k2, k3]
    constructor
    · rintro ⟨q1, q2, q3, q4, q5, q6, q7⟩; exact ⟨q1, q2, q3, by omega, q5, q6, q7⟩
    · rintro ⟨q1, q2, q3, q4, q5, q6, q7⟩; exact ⟨q1, q2, q3, by omega, q5, q6, q7⟩
  have key0 : mthP x.m → memP x.m.name ∧ bp = true ∧ (x.m.result = { data := #[] } ∨ rightK x.m.result) := fun h => ⟨h.1, k1.2 h.2.1, h.2.2.1⟩
  have hl1 := hs.lp
  have hl2 := hs.lc
  have hl3 := hs.lk
  refine fn_of (n := 68) (args := [x.v]) Tryz.func70 rfl rfl rfl (W_seq (W_region ?_))
  refine L_new (.plain rfl) rfl rfl (r_boxa rfl) (fun w1 b1 hb1 eb1 hs1 c1 => (L_r (r_ab rfl) (L_nil (W_seq (W_seq (W_region ?_))))))
  refine L_r (r_fieldb Tryz.underlying43 rfl (show _ = some 1 from rfl) rfl rfl (show _ = 0 from rfl)) (L_r (r_lb rfl rfl) ?_)
  refine L_call (.plain rfl) rfl rfl (r_call Tryz.func67 rfl rfl rfl (by rfl)) (member_walk x.m.name _) ?_
  rintro v7 w2 ⟨rfl, c2⟩
  have hz2 := c2.size
  refine L_r (r_not rfl) (L_r (r_mb rfl) ?_)
  refine L_caseb (d := 9) rfl (fun h9 => ?_) (fun h9 => ?_)
  ·
   refine L_ps (L_ps (L_ps (L_ps (L_r (r_pt rfl rfl) (L_r (r_mb rfl) (L_ps (L_ps (L_ps ?_))))))))
   refine L_ps ?_
   refine L_pu ?_
   refine L_pu ?_
   refine L_pu ?_
   refine L_pu (L_ps (L_r (r_pt rfl rfl) (L_nil ?_)))
   refine W_true rfl (W_seq (W_region (L_r (r_ab rfl) (L_nil (W_ret ?_)))))
   refine ret1 (v := .bool _) rfl rfl ?_
   refine ⟨?_, Ch.au⟩
   (try simp only [decide_eq_true_eq, decide_eq_false_iff_not, Bool.not_eq_true', Bool.not_eq_false', ne_eq] at *)
   first
   | exact bool_f (fun h => by have h0 := key0 h; simp_all; done)
   | exact bool_f (fun h => by rw [key1 (by assumption)] at h; obtain ⟨_, _, _, q1, q2, q3⟩ := h; omega)
   | exact bool_dec (by rw [key1 (by assumption)]; constructor; (intro k; refine ⟨by assumption, by assumption, ?_, by omega, by omega, by omega⟩; by_cases hr : x.m.result = { data := #[] }; exact .inl hr; exact .inr (by simp_all)); (intro k; omega))
   | exact bool_f (fun h => by rw [key2 (by assumption)] at h; obtain ⟨_, _, _, q1, q2, q3, q4⟩ := h; first | omega | simp_all)
   | exact dec_b (by rw [key2 (by assumption)]; constructor; (intro k; refine ⟨by assumption, by assumption, ?_, by omega, by omega, by assumption, k⟩; by_cases hr : x.m.result = { data := #[] }; exact .inl hr; exact .inr (by simp_all)); (intro k; exact k.2.2.2.2.2.2))
  ·
   refine L_g (r_fieldb Tryz.underlying43 rfl (show _ = some 1 from rfl) rfl rfl (show _ = 1 from rfl)) ?_
   refine L_g (r_lb rfl rfl) ?_
   refine L_call (.yes 4 false rfl rfl) rfl rfl (r_call Tryz.func57 rfl rfl rfl (by rfl)) (every_S x.m.params x.vp 68 [] (fun p => decide (rightK p)) _ (hxw _ Ch.au).p (by omega) ⟨_, _, Tryz.func68, rfl, rfl⟩ (fun p hp W c => rightk_walk p W (hs.params p hp))) ?_
   rintro v12 w3 ⟨rfl, c3⟩
   have hz3 := c3.size
   rw [← hbp]
   refine L_g (r_not rfl) (L_r (r_pf rfl rfl) (L_r (r_mb rfl) ?_))
   refine L_caseb (d := 15) rfl (fun h15 => ?_) (fun h15 => ?_)
   ·
    refine L_ps (L_ps (L_ps (L_ps ?_)))
    refine L_pu ?_
    refine L_pu ?_
    refine L_pu ?_
    refine L_pu (L_ps (L_r (r_pt rfl rfl) (L_nil ?_)))
    refine W_true rfl (W_seq (W_region (L_r (r_ab rfl) (L_nil (W_ret ?_)))))
    refine ret1 (v := .bool _) rfl rfl ?_
    refine ⟨?_, Ch.au⟩
    (try simp only [decide_eq_true_eq, decide_eq_false_iff_not, Bool.not_eq_true', Bool.not_eq_false', ne_eq] at *)
    first
    | exact bool_f (fun h => by have h0 := key0 h; simp_all; done)
    | exact bool_f (fun h => by rw [key1 (by assumption)] at h; obtain ⟨_, _, _, q1, q2, q3⟩ := h; omega)
    | exact bool_dec (by rw [key1 (by assumption)]; constructor; (intro k; refine ⟨by assumption, by assumption, ?_, by omega, by omega, by omega⟩; by_cases hr : x.m.result = { data := #[] }; exact .inl hr; exact .inr (by simp_all)); (intro k; omega))
    | exact bool_f (fun h => by rw [key2 (by assumption)] at h; obtain ⟨_, _, _, q1, q2, q3, q4⟩ := h; first | omega | simp_all)
    | exact dec_b (by rw [key2 (by assumption)]; constructor; (intro k; refine ⟨by assumption, by assumption, ?_, by omega, by omega, by assumption, k⟩; by_cases hr : x.m.result = { data := #[] }; exact .inl hr; exact .inr (by simp_all)); (intro k; exact k.2.2.2.2.2.2))
   ·
    refine L_g (r_fieldb Tryz.underlying43 rfl (show _ = some 1 from rfl) rfl rfl (show _ = 2 from rfl)) ?_
    refine L_g (r_lb rfl rfl) ?_
    refine L_g (r_neqs rfl rfl) ?_
    refine L_g (r_mb rfl) ?_
    refine L_case (d := 19) rfl (fun h19 => ?_) (fun h19 => ?_)
    ·
     refine L_g (r_fieldb Tryz.underlying43 rfl (show _ = some 1 from rfl) rfl rfl (show _ = 2 from rfl)) ?_
     refine L_g (r_lb rfl rfl) ?_
     refine L_call (.yes 14 true rfl rfl) rfl rfl (r_call Tryz.func68 rfl rfl rfl (by rfl)) (rightk_walk x.m.result _ hs.result) ?_
     rintro v22 w4 ⟨rfl, c4⟩
     have hz4 := c4.size
     refine L_g (r_not rfl) ?_
     refine L_g (r_pt rfl rfl) (L_r (r_pf rfl rfl) (L_nil ?_))
     refine W_bool rfl (fun h25 => ?_) (fun h25 => ?_)
     ·
      refine W_seq (W_region (L_r (r_ab rfl) (L_nil (W_ret ?_))))
      refine ret1 (v := .bool _) rfl rfl ?_
      refine ⟨?_, Ch.au⟩
      (try simp only [decide_eq_true_eq, decide_eq_false_iff_not, Bool.not_eq_true', Bool.not_eq_false', ne_eq] at *)
      first
      | exact bool_f (fun h => by have h0 := key0 h; simp_all; done)
      | exact bool_f (fun h => by rw [key1 (by assumption)] at h; obtain ⟨_, _, _, q1, q2, q3⟩ := h; omega)
      | exact bool_dec (by rw [key1 (by assumption)]; constructor; (intro k; refine ⟨by assumption, by assumption, ?_, by omega, by omega, by omega⟩; by_cases hr : x.m.result = { data := #[] }; exact .inl hr; exact .inr (by simp_all)); (intro k; omega))
      | exact bool_f (fun h => by rw [key2 (by assumption)] at h; obtain ⟨_, _, _, q1, q2, q3, q4⟩ := h; first | omega | simp_all)
      | exact dec_b (by rw [key2 (by assumption)]; constructor; (intro k; refine ⟨by assumption, by assumption, ?_, by omega, by omega, by assumption, k⟩; by_cases hr : x.m.result = { data := #[] }; exact .inl hr; exact .inr (by simp_all)); (intro k; exact k.2.2.2.2.2.2))
     ·
      refine W_skip (W_seq (W_seq (W_region ?_)))
      refine L_r (r_fieldb Tryz.underlying43 rfl (show _ = some 1 from rfl) rfl rfl (show _ = 3 from rfl)) (L_r (r_lb rfl rfl) (L_nil ?_))
      refine W_bool rfl (fun h27 => ?_) (fun h27 => ?_)
      ·
       refine W_seq (W_region ?_)
       refine L_r (r_fieldb Tryz.underlying43 rfl (show _ = some 1 from rfl) rfl rfl (show _ = 4 from rfl)) (L_r (r_lb rfl rfl) (L_r (r_eql rfl rfl) (L_r (r_mb rfl) ?_)))
       refine L_case (d := 31) rfl (fun h31 => ?_) (fun h31 => ?_)
       ·
        refine L_g (r_fieldb Tryz.underlying43 rfl (show _ = some 1 from rfl) rfl rfl (show _ = 5 from rfl)) ?_
        refine L_g (r_lb rfl rfl) ?_
        refine L_g (r_lenSl Tryz.underlying40 (by conv => lhs; whnf) Sl.au) ?_
        refine L_g (r_eql rfl rfl) (L_r (r_pt rfl rfl) (L_r (r_mb rfl) ?_))
        refine L_case (d := 37) rfl (fun h37 => ?_) (fun h37 => ?_)
        ·
         refine L_g (r_fieldb Tryz.underlying43 rfl (show _ = some 1 from rfl) rfl rfl (show _ = 6 from rfl)) ?_
         refine L_g (r_lb rfl rfl) ?_
         refine L_g (r_lenSl Tryz.underlying41 (by conv => lhs; whnf) Sl.au) ?_
         refine L_g (r_eql rfl rfl) (L_r (r_pt rfl rfl) (L_r (r_ab rfl) (L_nil (W_ret ?_))))
         refine ret1 (v := .bool _) rfl rfl ?_
         refine ⟨?_, Ch.au⟩
         (try simp only [decide_eq_true_eq, decide_eq_false_iff_not, Bool.not_eq_true', Bool.not_eq_false', ne_eq] at *)
         first
         | exact bool_f (fun h => by have h0 := key0 h; simp_all; done)
         | exact bool_f (fun h => by rw [key1 (by assumption)] at h; obtain ⟨_, _, _, q1, q2, q3⟩ := h; omega)
         | exact bool_dec (by rw [key1 (by assumption)]; constructor; (intro k; refine ⟨by assumption, by assumption, ?_, by omega, by omega, by omega⟩; by_cases hr : x.m.result = { data := #[] }; exact .inl hr; exact .inr (by simp_all)); (intro k; omega))
         | exact bool_f (fun h => by rw [key2 (by assumption)] at h; obtain ⟨_, _, _, q1, q2, q3, q4⟩ := h; first | omega | simp_all)
         | exact dec_b (by rw [key2 (by assumption)]; constructor; (intro k; refine ⟨by assumption, by assumption, ?_, by omega, by omega, by assumption, k⟩; by_cases hr : x.m.result = { data := #[] }; exact .inl hr; exact .inr (by simp_all)); (intro k; exact k.2.2.2.2.2.2))
        ·
         refine L_ps (L_ps (L_ps (L_ps (L_r (r_pf rfl rfl) (L_r (r_ab rfl) (L_nil (W_ret ?_)))))))
         refine ret1 (v := .bool _) rfl rfl ?_
         refine ⟨?_, Ch.au⟩
         (try simp only [decide_eq_true_eq, decide_eq_false_iff_not, Bool.not_eq_true', Bool.not_eq_false', ne_eq] at *)
         first
         | exact bool_f (fun h => by have h0 := key0 h; simp_all; done)
         | exact bool_f (fun h => by rw [key1 (by assumption)] at h; obtain ⟨_, _, _, q1, q2, q3⟩ := h; omega)
         | exact bool_dec (by rw [key1 (by assumption)]; constructor; (intro k; refine ⟨by assumption, by assumption, ?_, by omega, by omega, by omega⟩; by_cases hr : x.m.result = { data := #[] }; exact .inl hr; exact .inr (by simp_all)); (intro k; omega))
         | exact bool_f (fun h => by rw [key2 (by assumption)] at h; obtain ⟨_, _, _, q1, q2, q3, q4⟩ := h; first | omega | simp_all)
         | exact dec_b (by rw [key2 (by assumption)]; constructor; (intro k; refine ⟨by assumption, by assumption, ?_, by omega, by omega, by assumption, k⟩; by_cases hr : x.m.result = { data := #[] }; exact .inl hr; exact .inr (by simp_all)); (intro k; exact k.2.2.2.2.2.2))
       ·
        refine L_ps (L_ps (L_ps (L_ps (L_r (r_pf rfl rfl) (L_r (r_mb rfl) (L_ps (L_ps (L_ps ?_))))))))
        refine L_ps (L_r (r_pf rfl rfl) (L_r (r_ab rfl) (L_nil (W_ret ?_))))
        refine ret1 (v := .bool _) rfl rfl ?_
        refine ⟨?_, Ch.au⟩
        (try simp only [decide_eq_true_eq, decide_eq_false_iff_not, Bool.not_eq_true', Bool.not_eq_false', ne_eq] at *)
        first
        | exact bool_f (fun h => by have h0 := key0 h; simp_all; done)
        | exact bool_f (fun h => by rw [key1 (by assumption)] at h; obtain ⟨_, _, _, q1, q2, q3⟩ := h; omega)
        | exact bool_dec (by rw [key1 (by assumption)]; constructor; (intro k; refine ⟨by assumption, by assumption, ?_, by omega, by omega, by omega⟩; by_cases hr : x.m.result = { data := #[] }; exact .inl hr; exact .inr (by simp_all)); (intro k; omega))
        | exact bool_f (fun h => by rw [key2 (by assumption)] at h; obtain ⟨_, _, _, q1, q2, q3, q4⟩ := h; first | omega | simp_all)
        | exact dec_b (by rw [key2 (by assumption)]; constructor; (intro k; refine ⟨by assumption, by assumption, ?_, by omega, by omega, by assumption, k⟩; by_cases hr : x.m.result = { data := #[] }; exact .inl hr; exact .inr (by simp_all)); (intro k; exact k.2.2.2.2.2.2))
      ·
       refine W_skip (W_seq (W_region ?_))
       refine L_r (r_fieldb Tryz.underlying43 rfl (show _ = some 1 from rfl) rfl rfl (show _ = 5 from rfl)) (L_r (r_lb rfl rfl) ?_)
       refine L_r (r_lenSl Tryz.underlying40 (by conv => lhs; whnf) Sl.au) ?_
       refine L_new (.plain rfl) rfl rfl (r_alloc1 rfl rfl) (fun w5 b3 hb3 eb5 hs5 c5 => ?_)
       refine L_set (.plain rfl) rfl Bk.au (r_store (v := .int _ _) rfl rfl rfl rfl Bk.au (by first | decide | (simp; done) | omega)) (fun w6 hb6 hs6 c6 => ?_)
       try simp only [List.setIfInBounds_toArray, List.set_cons_zero, List.set_cons_succ] at hb6
       refine L_nil (W_seq (W_region ?_))
       refine L_r (r_funcL (l1 := []) (l2 := [.pointer _]) rfl rfl) (L_r (r_av) (L_nil (W_seq (W_region (L_r (r_lb rfl rfl) (L_r (r_gtr rfl rfl) (L_r (r_mb rfl) ?_)))))))
       refine L_case (d := 49) rfl (fun h49 => ?_) (fun h49 => ?_)
       ·
        refine L_g (r_fieldb Tryz.underlying43 rfl (show _ = some 1 from rfl) rfl rfl (show _ = 4 from rfl)) ?_
        refine L_g (r_lb rfl rfl) ?_
        refine L_g (r_fieldb Tryz.underlying43 rfl (show _ = some 1 from rfl) rfl rfl (show _ = 1 from rfl)) ?_
        refine L_g (r_lb rfl rfl) ?_
        refine L_g (r_lenSl Tryz.underlying22 (by conv => lhs; whnf) Sl.au) ?_
        refine L_g (r_gtr rfl rfl) (L_r (r_pt rfl rfl) (L_r (r_mb rfl) ?_))
        refine L_case (d := 57) rfl (fun h57 => ?_) (fun h57 => ?_)
        ·
         refine L_g (r_fieldb Tryz.underlying43 rfl (show _ = some 1 from rfl) rfl rfl (show _ = 5 from rfl)) ?_
         refine L_g (r_lb rfl rfl) ?_
         refine L_call (.yes 10 true rfl rfl) rfl rfl (r_call Tryz.func129 rfl rfl rfl (by rfl)) (every_I x.m.code x.vc 130 [] (fun i => decide (checkI i = 0)) _ (hxw _ Ch.au).c (by omega) ⟨_, _, Tryz.func130, rfl, rfl⟩ (fun i hi W c => ins2_walk g i W (hG.nw Ch.au hb) (by have := c.size; omega) (hs.code i hi))) ?_
         rintro v60 w7 ⟨rfl, c7⟩
         have hz7 := c7.size
         rw [← hbc]
         refine L_r (r_pt rfl rfl) (L_r (r_mb rfl) ?_)
         refine L_caseb (d := 62) rfl (fun h62 => ?_) (fun h62 => ?_)
         ·
          refine L_g (r_fieldb Tryz.underlying43 rfl (show _ = some 1 from rfl) rfl rfl (show _ = 6 from rfl)) ?_
          refine L_g (r_lb rfl rfl) ?_
          refine L_g (r_mv) ?_
          refine L_call (.yes 15 true rfl rfl) rfl rfl (r_call Tryz.func132 rfl rfl rfl (by rfl)) (every_K x.m.cats x.vk 128 [.pointer (some ⟨b3, 0, none⟩)] (fun i => decide (catP x.m.code.length i)) _ (hxw _ Ch.au).k (by omega) ⟨_, _, Tryz.func128, rfl, rfl⟩ (fun i hi W c => cat1_walk i b3 x.m.code.length W Bk.au)) ?_
          rintro v66 w8 ⟨rfl, c8⟩
          have hz8 := c8.size
          rw [← hbk]
          refine L_r (r_pt rfl rfl) (L_r (r_ab rfl) (L_nil (W_ret ?_)))
          refine ret1 (v := .bool _) rfl rfl ?_
          refine ⟨?_, Ch.au⟩
          (try simp only [decide_eq_true_eq, decide_eq_false_iff_not, Bool.not_eq_true', Bool.not_eq_false', ne_eq] at *)
          first
          | exact bool_f (fun h => by have h0 := key0 h; simp_all; done)
          | exact bool_f (fun h => by rw [key1 (by assumption)] at h; obtain ⟨_, _, _, q1, q2, q3⟩ := h; omega)
          | exact bool_dec (by rw [key1 (by assumption)]; constructor; (intro k; refine ⟨by assumption, by assumption, ?_, by omega, by omega, by omega⟩; by_cases hr : x.m.result = { data := #[] }; exact .inl hr; exact .inr (by simp_all)); (intro k; omega))
          | exact bool_f (fun h => by rw [key2 (by assumption)] at h; obtain ⟨_, _, _, q1, q2, q3, q4⟩ := h; first | omega | simp_all)
          | exact dec_b (by rw [key2 (by assumption)]; constructor; (intro k; refine ⟨by assumption, by assumption, ?_, by omega, by omega, by assumption, k⟩; by_cases hr : x.m.result = { data := #[] }; exact .inl hr; exact .inr (by simp_all)); (intro k; exact k.2.2.2.2.2.2))
         ·
          refine L_ps (L_ps (L_ps (L_ps (L_r (r_pf rfl rfl) (L_r (r_ab rfl) (L_nil (W_ret ?_)))))))
          refine ret1 (v := .bool _) rfl rfl ?_
          refine ⟨?_, Ch.au⟩
          (try simp only [decide_eq_true_eq, decide_eq_false_iff_not, Bool.not_eq_true', Bool.not_eq_false', ne_eq] at *)
          first
          | exact bool_f (fun h => by have h0 := key0 h; simp_all; done)
          | exact bool_f (fun h => by rw [key1 (by assumption)] at h; obtain ⟨_, _, _, q1, q2, q3⟩ := h; omega)
          | exact bool_dec (by rw [key1 (by assumption)]; constructor; (intro k; refine ⟨by assumption, by assumption, ?_, by omega, by omega, by omega⟩; by_cases hr : x.m.result = { data := #[] }; exact .inl hr; exact .inr (by simp_all)); (intro k; omega))
          | exact bool_f (fun h => by rw [key2 (by assumption)] at h; obtain ⟨_, _, _, q1, q2, q3, q4⟩ := h; first | omega | simp_all)
          | exact dec_b (by rw [key2 (by assumption)]; constructor; (intro k; refine ⟨by assumption, by assumption, ?_, by omega, by omega, by assumption, k⟩; by_cases hr : x.m.result = { data := #[] }; exact .inl hr; exact .inr (by simp_all)); (intro k; exact k.2.2.2.2.2.2))
        ·
         refine L_ps (L_ps (L_ps (L_r (r_pf rfl rfl) (L_r (r_mb rfl) (L_ps (L_ps (L_ps (L_ps ?_))))))))
         refine L_r (r_pf rfl rfl) (L_r (r_ab rfl) (L_nil (W_ret ?_)))
         refine ret1 (v := .bool _) rfl rfl ?_
         refine ⟨?_, Ch.au⟩
         (try simp only [decide_eq_true_eq, decide_eq_false_iff_not, Bool.not_eq_true', Bool.not_eq_false', ne_eq] at *)
         first
         | exact bool_f (fun h => by have h0 := key0 h; simp_all; done)
         | exact bool_f (fun h => by rw [key1 (by assumption)] at h; obtain ⟨_, _, _, q1, q2, q3⟩ := h; omega)
         | exact bool_dec (by rw [key1 (by assumption)]; constructor; (intro k; refine ⟨by assumption, by assumption, ?_, by omega, by omega, by omega⟩; by_cases hr : x.m.result = { data := #[] }; exact .inl hr; exact .inr (by simp_all)); (intro k; omega))
         | exact bool_f (fun h => by rw [key2 (by assumption)] at h; obtain ⟨_, _, _, q1, q2, q3, q4⟩ := h; first | omega | simp_all)
         | exact dec_b (by rw [key2 (by assumption)]; constructor; (intro k; refine ⟨by assumption, by assumption, ?_, by omega, by omega, by assumption, k⟩; by_cases hr : x.m.result = { data := #[] }; exact .inl hr; exact .inr (by simp_all)); (intro k; exact k.2.2.2.2.2.2))
       ·
        refine L_ps (L_ps (L_ps (L_ps (L_ps (L_ps (L_r (r_pf rfl rfl) (L_r (r_mb rfl) (L_ps ?_))))))))
        refine L_ps (L_ps (L_r (r_pf rfl rfl) (L_r (r_mb rfl) (L_ps (L_ps (L_ps (L_ps (L_r (r_pf rfl rfl) ?_))))))))
        refine L_r (r_ab rfl) (L_nil (W_ret ?_))
        refine ret1 (v := .bool _) rfl rfl ?_
        refine ⟨?_, Ch.au⟩
        (try simp only [decide_eq_true_eq, decide_eq_false_iff_not, Bool.not_eq_true', Bool.not_eq_false', ne_eq] at *)
        first
        | exact bool_f (fun h => by have h0 := key0 h; simp_all; done)
        | exact bool_f (fun h => by rw [key1 (by assumption)] at h; obtain ⟨_, _, _, q1, q2, q3⟩ := h; omega)
        | exact bool_dec (by rw [key1 (by assumption)]; constructor; (intro k; refine ⟨by assumption, by assumption, ?_, by omega, by omega, by omega⟩; by_cases hr : x.m.result = { data := #[] }; exact .inl hr; exact .inr (by simp_all)); (intro k; omega))
        | exact bool_f (fun h => by rw [key2 (by assumption)] at h; obtain ⟨_, _, _, q1, q2, q3, q4⟩ := h; first | omega | simp_all)
        | exact dec_b (by rw [key2 (by assumption)]; constructor; (intro k; refine ⟨by assumption, by assumption, ?_, by omega, by omega, by assumption, k⟩; by_cases hr : x.m.result = { data := #[] }; exact .inl hr; exact .inr (by simp_all)); (intro k; exact k.2.2.2.2.2.2))
    ·
     refine L_ps (L_ps (L_ps (L_ps ?_)))
     refine L_g (r_pf rfl rfl) (L_r (r_pf rfl rfl) (L_nil ?_))
     refine W_false rfl (W_skip (W_seq (W_seq (W_region ?_))))
     refine L_r (r_fieldb Tryz.underlying43 rfl (show _ = some 1 from rfl) rfl rfl (show _ = 3 from rfl)) (L_r (r_lb rfl rfl) (L_nil ?_))
     refine W_bool rfl (fun h27 => ?_) (fun h27 => ?_)
     ·
      refine W_seq (W_region ?_)
      refine L_r (r_fieldb Tryz.underlying43 rfl (show _ = some 1 from rfl) rfl rfl (show _ = 4 from rfl)) (L_r (r_lb rfl rfl) (L_r (r_eql rfl rfl) (L_r (r_mb rfl) ?_)))
      refine L_case (d := 31) rfl (fun h31 => ?_) (fun h31 => ?_)
      ·
       refine L_g (r_fieldb Tryz.underlying43 rfl (show _ = some 1 from rfl) rfl rfl (show _ = 5 from rfl)) ?_
       refine L_g (r_lb rfl rfl) ?_
       refine L_g (r_lenSl Tryz.underlying40 (by conv => lhs; whnf) Sl.au) ?_
       refine L_g (r_eql rfl rfl) (L_r (r_pt rfl rfl) (L_r (r_mb rfl) ?_))
       refine L_case (d := 37) rfl (fun h37 => ?_) (fun h37 => ?_)
       ·
        refine L_g (r_fieldb Tryz.underlying43 rfl (show _ = some 1 from rfl) rfl rfl (show _ = 6 from rfl)) ?_
        refine L_g (r_lb rfl rfl) ?_
        refine L_g (r_lenSl Tryz.underlying41 (by conv => lhs; whnf) Sl.au) ?_
        refine L_g (r_eql rfl rfl) (L_r (r_pt rfl rfl) (L_r (r_ab rfl) (L_nil (W_ret ?_))))
        refine ret1 (v := .bool _) rfl rfl ?_
        refine ⟨?_, Ch.au⟩
        (try simp only [decide_eq_true_eq, decide_eq_false_iff_not, Bool.not_eq_true', Bool.not_eq_false', ne_eq] at *)
        first
        | exact bool_f (fun h => by have h0 := key0 h; simp_all; done)
        | exact bool_f (fun h => by rw [key1 (by assumption)] at h; obtain ⟨_, _, _, q1, q2, q3⟩ := h; omega)
        | exact bool_dec (by rw [key1 (by assumption)]; constructor; (intro k; refine ⟨by assumption, by assumption, ?_, by omega, by omega, by omega⟩; by_cases hr : x.m.result = { data := #[] }; exact .inl hr; exact .inr (by simp_all)); (intro k; omega))
        | exact bool_f (fun h => by rw [key2 (by assumption)] at h; obtain ⟨_, _, _, q1, q2, q3, q4⟩ := h; first | omega | simp_all)
        | exact dec_b (by rw [key2 (by assumption)]; constructor; (intro k; refine ⟨by assumption, by assumption, ?_, by omega, by omega, by assumption, k⟩; by_cases hr : x.m.result = { data := #[] }; exact .inl hr; exact .inr (by simp_all)); (intro k; exact k.2.2.2.2.2.2))
       ·
        refine L_ps (L_ps (L_ps (L_ps (L_r (r_pf rfl rfl) (L_r (r_ab rfl) (L_nil (W_ret ?_)))))))
        refine ret1 (v := .bool _) rfl rfl ?_
        refine ⟨?_, Ch.au⟩
        (try simp only [decide_eq_true_eq, decide_eq_false_iff_not, Bool.not_eq_true', Bool.not_eq_false', ne_eq] at *)
        first
        | exact bool_f (fun h => by have h0 := key0 h; simp_all; done)
        | exact bool_f (fun h => by rw [key1 (by assumption)] at h; obtain ⟨_, _, _, q1, q2, q3⟩ := h; omega)
        | exact bool_dec (by rw [key1 (by assumption)]; constructor; (intro k; refine ⟨by assumption, by assumption, ?_, by omega, by omega, by omega⟩; by_cases hr : x.m.result = { data := #[] }; exact .inl hr; exact .inr (by simp_all)); (intro k; omega))
        | exact bool_f (fun h => by rw [key2 (by assumption)] at h; obtain ⟨_, _, _, q1, q2, q3, q4⟩ := h; first | omega | simp_all)
        | exact dec_b (by rw [key2 (by assumption)]; constructor; (intro k; refine ⟨by assumption, by assumption, ?_, by omega, by omega, by assumption, k⟩; by_cases hr : x.m.result = { data := #[] }; exact .inl hr; exact .inr (by simp_all)); (intro k; exact k.2.2.2.2.2.2))
      ·
       refine L_ps (L_ps (L_ps (L_ps (L_r (r_pf rfl rfl) (L_r (r_mb rfl) (L_ps (L_ps (L_ps ?_))))))))
       refine L_ps (L_r (r_pf rfl rfl) (L_r (r_ab rfl) (L_nil (W_ret ?_))))
       refine ret1 (v := .bool _) rfl rfl ?_
       refine ⟨?_, Ch.au⟩
       (try simp only [decide_eq_true_eq, decide_eq_false_iff_not, Bool.not_eq_true', Bool.not_eq_false', ne_eq] at *)
       first
       | exact bool_f (fun h => by have h0 := key0 h; simp_all; done)
       | exact bool_f (fun h => by rw [key1 (by assumption)] at h; obtain ⟨_, _, _, q1, q2, q3⟩ := h; omega)
       | exact bool_dec (by rw [key1 (by assumption)]; constructor; (intro k; refine ⟨by assumption, by assumption, ?_, by omega, by omega, by omega⟩; by_cases hr : x.m.result = { data := #[] }; exact .inl hr; exact .inr (by simp_all)); (intro k; omega))
       | exact bool_f (fun h => by rw [key2 (by assumption)] at h; obtain ⟨_, _, _, q1, q2, q3, q4⟩ := h; first | omega | simp_all)
       | exact dec_b (by rw [key2 (by assumption)]; constructor; (intro k; refine ⟨by assumption, by assumption, ?_, by omega, by omega, by assumption, k⟩; by_cases hr : x.m.result = { data := #[] }; exact .inl hr; exact .inr (by simp_all)); (intro k; exact k.2.2.2.2.2.2))
     ·
      refine W_skip (W_seq (W_region ?_))
      refine L_r (r_fieldb Tryz.underlying43 rfl (show _ = some 1 from rfl) rfl rfl (show _ = 5 from rfl)) (L_r (r_lb rfl rfl) ?_)
      refine L_r (r_lenSl Tryz.underlying40 (by conv => lhs; whnf) Sl.au) ?_
      refine L_new (.plain rfl) rfl rfl (r_alloc1 rfl rfl) (fun w9 b3 hb3 eb9 hs9 c9 => ?_)
      refine L_set (.plain rfl) rfl Bk.au (r_store (v := .int _ _) rfl rfl rfl rfl Bk.au (by first | decide | (simp; done) | omega)) (fun w10 hb10 hs10 c10 => ?_)
      try simp only [List.setIfInBounds_toArray, List.set_cons_zero, List.set_cons_succ] at hb10
      refine L_nil (W_seq (W_region ?_))
      refine L_r (r_funcL (l1 := []) (l2 := [.pointer _]) rfl rfl) (L_r (r_av) (L_nil (W_seq (W_region (L_r (r_lb rfl rfl) (L_r (r_gtr rfl rfl) (L_r (r_mb rfl) ?_)))))))
      refine L_case (d := 49) rfl (fun h49 => ?_) (fun h49 => ?_)
      ·
       refine L_g (r_fieldb Tryz.underlying43 rfl (show _ = some 1 from rfl) rfl rfl (show _ = 4 from rfl)) ?_
       refine L_g (r_lb rfl rfl) ?_
       refine L_g (r_fieldb Tryz.underlying43 rfl (show _ = some 1 from rfl) rfl rfl (show _ = 1 from rfl)) ?_
       refine L_g (r_lb rfl rfl) ?_
       refine L_g (r_lenSl Tryz.underlying22 (by conv => lhs; whnf) Sl.au) ?_
       refine L_g (r_gtr rfl rfl) (L_r (r_pt rfl rfl) (L_r (r_mb rfl) ?_))
       refine L_case (d := 57) rfl (fun h57 => ?_) (fun h57 => ?_)
       ·
        refine L_g (r_fieldb Tryz.underlying43 rfl (show _ = some 1 from rfl) rfl rfl (show _ = 5 from rfl)) ?_
        refine L_g (r_lb rfl rfl) ?_
        refine L_call (.yes 10 true rfl rfl) rfl rfl (r_call Tryz.func129 rfl rfl rfl (by rfl)) (every_I x.m.code x.vc 130 [] (fun i => decide (checkI i = 0)) _ (hxw _ Ch.au).c (by omega) ⟨_, _, Tryz.func130, rfl, rfl⟩ (fun i hi W c => ins2_walk g i W (hG.nw Ch.au hb) (by have := c.size; omega) (hs.code i hi))) ?_
        rintro v60 w11 ⟨rfl, c11⟩
        have hz11 := c11.size
        rw [← hbc]
        refine L_r (r_pt rfl rfl) (L_r (r_mb rfl) ?_)
        refine L_caseb (d := 62) rfl (fun h62 => ?_) (fun h62 => ?_)
        ·
         refine L_g (r_fieldb Tryz.underlying43 rfl (show _ = some 1 from rfl) rfl rfl (show _ = 6 from rfl)) ?_
         refine L_g (r_lb rfl rfl) ?_
         refine L_g (r_mv) ?_
         refine L_call (.yes 15 true rfl rfl) rfl rfl (r_call Tryz.func132 rfl rfl rfl (by rfl)) (every_K x.m.cats x.vk 128 [.pointer (some ⟨b3, 0, none⟩)] (fun i => decide (catP x.m.code.length i)) _ (hxw _ Ch.au).k (by omega) ⟨_, _, Tryz.func128, rfl, rfl⟩ (fun i hi W c => cat1_walk i b3 x.m.code.length W Bk.au)) ?_
         rintro v66 w12 ⟨rfl, c12⟩
         have hz12 := c12.size
         rw [← hbk]
         refine L_r (r_pt rfl rfl) (L_r (r_ab rfl) (L_nil (W_ret ?_)))
         refine ret1 (v := .bool _) rfl rfl ?_
         refine ⟨?_, Ch.au⟩
         (try simp only [decide_eq_true_eq, decide_eq_false_iff_not, Bool.not_eq_true', Bool.not_eq_false', ne_eq] at *)
         first
         | exact bool_f (fun h => by have h0 := key0 h; simp_all; done)
         | exact bool_f (fun h => by rw [key1 (by assumption)] at h; obtain ⟨_, _, _, q1, q2, q3⟩ := h; omega)
         | exact bool_dec (by rw [key1 (by assumption)]; constructor; (intro k; refine ⟨by assumption, by assumption, ?_, by omega, by omega, by omega⟩; by_cases hr : x.m.result = { data := #[] }; exact .inl hr; exact .inr (by simp_all)); (intro k; omega))
         | exact bool_f (fun h => by rw [key2 (by assumption)] at h; obtain ⟨_, _, _, q1, q2, q3, q4⟩ := h; first | omega | simp_all)
         | exact dec_b (by rw [key2 (by assumption)]; constructor; (intro k; refine ⟨by assumption, by assumption, ?_, by omega, by omega, by assumption, k⟩; by_cases hr : x.m.result = { data := #[] }; exact .inl hr; exact .inr (by simp_all)); (intro k; exact k.2.2.2.2.2.2))
        ·
         refine L_ps (L_ps (L_ps (L_ps (L_r (r_pf rfl rfl) (L_r (r_ab rfl) (L_nil (W_ret ?_)))))))
         refine ret1 (v := .bool _) rfl rfl ?_
         refine ⟨?_, Ch.au⟩
         (try simp only [decide_eq_true_eq, decide_eq_false_iff_not, Bool.not_eq_true', Bool.not_eq_false', ne_eq] at *)
         first
         | exact bool_f (fun h => by have h0 := key0 h; simp_all; done)
         | exact bool_f (fun h => by rw [key1 (by assumption)] at h; obtain ⟨_, _, _, q1, q2, q3⟩ := h; omega)
         | exact bool_dec (by rw [key1 (by assumption)]; constructor; (intro k; refine ⟨by assumption, by assumption, ?_, by omega, by omega, by omega⟩; by_cases hr : x.m.result = { data := #[] }; exact .inl hr; exact .inr (by simp_all)); (intro k; omega))
         | exact bool_f (fun h => by rw [key2 (by assumption)] at h; obtain ⟨_, _, _, q1, q2, q3, q4⟩ := h; first | omega | simp_all)
         | exact dec_b (by rw [key2 (by assumption)]; constructor; (intro k; refine ⟨by assumption, by assumption, ?_, by omega, by omega, by assumption, k⟩; by_cases hr : x.m.result = { data := #[] }; exact .inl hr; exact .inr (by simp_all)); (intro k; exact k.2.2.2.2.2.2))
       ·
        refine L_ps (L_ps (L_ps (L_r (r_pf rfl rfl) (L_r (r_mb rfl) (L_ps (L_ps (L_ps (L_ps ?_))))))))
        refine L_r (r_pf rfl rfl) (L_r (r_ab rfl) (L_nil (W_ret ?_)))
        refine ret1 (v := .bool _) rfl rfl ?_
        refine ⟨?_, Ch.au⟩
        (try simp only [decide_eq_true_eq, decide_eq_false_iff_not, Bool.not_eq_true', Bool.not_eq_false', ne_eq] at *)
        first
        | exact bool_f (fun h => by have h0 := key0 h; simp_all; done)
        | exact bool_f (fun h => by rw [key1 (by assumption)] at h; obtain ⟨_, _, _, q1, q2, q3⟩ := h; omega)
        | exact bool_dec (by rw [key1 (by assumption)]; constructor; (intro k; refine ⟨by assumption, by assumption, ?_, by omega, by omega, by omega⟩; by_cases hr : x.m.result = { data := #[] }; exact .inl hr; exact .inr (by simp_all)); (intro k; omega))
        | exact bool_f (fun h => by rw [key2 (by assumption)] at h; obtain ⟨_, _, _, q1, q2, q3, q4⟩ := h; first | omega | simp_all)
        | exact dec_b (by rw [key2 (by assumption)]; constructor; (intro k; refine ⟨by assumption, by assumption, ?_, by omega, by omega, by assumption, k⟩; by_cases hr : x.m.result = { data := #[] }; exact .inl hr; exact .inr (by simp_all)); (intro k; exact k.2.2.2.2.2.2))
      ·
       refine L_ps (L_ps (L_ps (L_ps (L_ps (L_ps (L_r (r_pf rfl rfl) (L_r (r_mb rfl) (L_ps ?_))))))))
       refine L_ps (L_ps (L_r (r_pf rfl rfl) (L_r (r_mb rfl) (L_ps (L_ps (L_ps (L_ps (L_r (r_pf rfl rfl) ?_))))))))
       refine L_r (r_ab rfl) (L_nil (W_ret ?_))
       refine ret1 (v := .bool _) rfl rfl ?_
       refine ⟨?_, Ch.au⟩
       (try simp only [decide_eq_true_eq, decide_eq_false_iff_not, Bool.not_eq_true', Bool.not_eq_false', ne_eq] at *)
       first
       | exact bool_f (fun h => by have h0 := key0 h; simp_all; done)
       | exact bool_f (fun h => by rw [key1 (by assumption)] at h; obtain ⟨_, _, _, q1, q2, q3⟩ := h; omega)
       | exact bool_dec (by rw [key1 (by assumption)]; constructor; (intro k; refine ⟨by assumption, by assumption, ?_, by omega, by omega, by omega⟩; by_cases hr : x.m.result = { data := #[] }; exact .inl hr; exact .inr (by simp_all)); (intro k; omega))
       | exact bool_f (fun h => by rw [key2 (by assumption)] at h; obtain ⟨_, _, _, q1, q2, q3, q4⟩ := h; first | omega | simp_all)
       | exact dec_b (by rw [key2 (by assumption)]; constructor; (intro k; refine ⟨by assumption, by assumption, ?_, by omega, by omega, by assumption, k⟩; by_cases hr : x.m.result = { data := #[] }; exact .inl hr; exact .inr (by simp_all)); (intro k; exact k.2.2.2.2.2.2))
end Go.Proofs.YthpknpfhpkkheaaGreatDoor

namespace Go.Proofs.YthpknpfhpkkheaaGreatDoor
open Go Go.RowKit
set_option linter.unusedVariables false
set_option linter.unusedSimpArgs false
set_option maxRecDepth 100000
theorem ra1_walk (x : MM) (w0 : World) (h1 : (#[.string x.m.name, x.vp, .string x.m.result, .bool x.m.abs, .int .i64 x.m.locals, x.vc, x.vk] : Array Value).all (fun x => x.oneCell') = true) : Does Tryz.prog 55 #[x.v] w0 (fun r w' => r = .bool x.m.abs ∧ Nw w0 w') := by
  refine fn_of (n := 5) (args := [x.v]) Tryz.func55 rfl rfl rfl (W_seq (W_region ?_))
  refine L_new (.plain rfl) rfl rfl (r_boxa rfl) (fun w1 b1 hb1 eb1 hs1 c1 => (L_r (r_ab rfl) (L_nil (W_seq (W_region ?_)))))
  refine L_r (r_fieldb Tryz.underlying43 rfl (show _ = some 1 from rfl) rfl rfl (show _ = 3 from rfl)) (L_r (r_lb rfl rfl) (L_r (r_ab rfl) (L_nil (W_ret ?_))))
  refine ret1 (v := .bool _) rfl rfl ?_
  exact ⟨rfl, Ch.au⟩
theorem ra2_walk (x : MM) (w0 : World) (h1 : (#[.string x.m.name, x.vp, .string x.m.result, .bool x.m.abs, .int .i64 x.m.locals, x.vc, x.vk] : Array Value).all (fun x => x.oneCell') = true) : Does Tryz.prog 56 #[x.v] w0 (fun r w' => r = .bool (!x.m.abs) ∧ Nw w0 w') := by
  refine fn_of (n := 6) (args := [x.v]) Tryz.func56 rfl rfl rfl (W_seq (W_region ?_))
  refine L_new (.plain rfl) rfl rfl (r_boxa rfl) (fun w1 b1 hb1 eb1 hs1 c1 => (L_r (r_ab rfl) (L_nil (W_seq (W_region ?_)))))
  refine L_r (r_fieldb Tryz.underlying43 rfl (show _ = some 1 from rfl) rfl rfl (show _ = 3 from rfl)) (L_r (r_lb rfl rfl) (L_r (r_not rfl) (L_r (r_ab rfl) (L_nil (W_ret ?_)))))
  refine ret1 (v := .bool _) rfl rfl ?_
  exact ⟨rfl, Ch.au⟩
theorem ra3_walk (s : ByteArray) (w0 : World) : Does Tryz.prog 60 #[.string s] w0 (fun r w' => r = .string s ∧ Nw w0 w') := by
  refine fn_of (n := 4) (args := [.string s]) Tryz.func60 rfl rfl rfl (W_seq (W_region (L_r (r_as rfl) (L_nil (W_seq (W_region (L_r (r_ms rfl) (L_r (r_as rfl) ?_))))))))
  refine L_nil (W_ret ?_)
  refine ret1 (v := .string _) rfl rfl ?_
  exact ⟨rfl, Ch.au⟩
theorem ra4_walk (x : CF) (w0 : World) : Does Tryz.prog 62 #[x.v] w0 (fun r w' => r = .string x.name ∧ Nw w0 w') := by
  refine fn_of (n := 5) (args := [x.v]) Tryz.func62 rfl rfl rfl (W_seq (W_region ?_))
  refine L_new (.plain rfl) rfl rfl (r_boxa rfl) (fun w1 b1 hb1 eb1 hs1 c1 => (L_r (r_as rfl) (L_nil (W_seq (W_region ?_)))))
  refine L_r (r_fieldb Tryz.underlying52 rfl (show _ = some 1 from rfl) rfl rfl (show _ = 0 from rfl)) (L_r (r_lb rfl rfl) (L_r (r_as rfl) (L_nil (W_ret ?_))))
  refine ret1 (v := .string _) rfl rfl ?_
  exact ⟨rfl, Ch.au⟩
theorem ra5_walk (x : MM) (w0 : World) (h1 : (#[.string x.m.name, x.vp, .string x.m.result, .bool x.m.abs, .int .i64 x.m.locals, x.vc, x.vk] : Array Value).all (fun x => x.oneCell') = true) : Does Tryz.prog 64 #[x.v] w0 (fun r w' => r = .string x.m.name ∧ Nw w0 w') := by
  refine fn_of (n := 5) (args := [x.v]) Tryz.func64 rfl rfl rfl (W_seq (W_region ?_))
  refine L_new (.plain rfl) rfl rfl (r_boxa rfl) (fun w1 b1 hb1 eb1 hs1 c1 => (L_r (r_as rfl) (L_nil (W_seq (W_region ?_)))))
  refine L_r (r_fieldb Tryz.underlying43 rfl (show _ = some 1 from rfl) rfl rfl (show _ = 0 from rfl)) (L_r (r_lb rfl rfl) (L_r (r_as rfl) (L_nil (W_ret ?_))))
  refine ret1 (v := .string _) rfl rfl ?_
  exact ⟨rfl, Ch.au⟩
def fldP (f : CF) : Prop := memP f.name ∧ rightK f.kind
instance (f : CF) : Decidable (fldP f) := inferInstanceAs (Decidable (_ ∧ _))
theorem ra6_walk (x : CF) (w0 : World) (hs : x.kind.size ≤ 1000000000000000) : Does Tryz.prog 66 #[x.v] w0 (fun r w' => r = .bool (decide (fldP x)) ∧ Nw w0 w') := by
  refine fn_of (n := 11) (args := [x.v]) Tryz.func66 rfl rfl rfl (W_seq (W_region ?_))
  refine L_new (.plain rfl) rfl rfl (r_boxa rfl) (fun w1 b1 hb1 eb1 hs1 c1 => (L_r (r_ab rfl) (L_nil (W_seq (W_region ?_)))))
  refine L_r (r_fieldb Tryz.underlying52 rfl (show _ = some 1 from rfl) rfl rfl (show _ = 0 from rfl)) (L_r (r_lb rfl rfl) ?_)
  refine L_call (.plain rfl) rfl rfl (r_call Tryz.func67 rfl rfl rfl (by rfl)) (member_walk x.name _) ?_
  rintro v5 w2 ⟨rfl, c2⟩
  have hz2 := c2.size
  refine L_r (r_mb rfl) ?_
  refine L_caseb (d := 6) rfl (fun h6 => ?_) (fun h6 => ?_)
  ·
   refine L_g (r_fieldb Tryz.underlying52 rfl (show _ = some 1 from rfl) rfl rfl (show _ = 1 from rfl)) ?_
   refine L_g (r_lb rfl rfl) ?_
   refine L_call (.yes 3 true rfl rfl) rfl rfl (r_call Tryz.func68 rfl rfl rfl (by rfl)) (rightk_walk x.kind _ hs) ?_
   rintro v9 w3 ⟨rfl, c3⟩
   have hz3 := c3.size
   refine L_r (r_pt rfl rfl) (L_r (r_ab rfl) (L_nil (W_ret ?_)))
   refine ret1 (v := .bool _) rfl rfl ?_
   refine ⟨?_, Ch.au⟩
   (try simp only [decide_eq_true_eq, decide_eq_false_iff_not] at *)
   first
   | exact bool_f (fun h => by first | exact absurd h.1 (by assumption) | exact absurd h.2 (by assumption))
   | exact bool_dec ⟨fun k => ⟨by assumption, k⟩, fun k => k.2⟩
  ·
   refine L_ps (L_ps (L_ps (L_r (r_pf rfl rfl) (L_r (r_ab rfl) (L_nil (W_ret ?_))))))
   refine ret1 (v := .bool _) rfl rfl ?_
   refine ⟨?_, Ch.au⟩
   (try simp only [decide_eq_true_eq, decide_eq_false_iff_not] at *)
   first
   | exact bool_f (fun h => by first | exact absurd h.1 (by assumption) | exact absurd h.2 (by assumption))
   | exact bool_dec ⟨fun k => ⟨by assumption, k⟩, fun k => k.2⟩
set_option maxHeartbeats 1000000 in
theorem many_walk (c : CC) (w0 : World) (hc : c.ok w0) (hs : c.p.sz) : Does Tryz.prog 26 #[c.v] w0 (fun r w' => r = .bool (decide (manyP c.p)) ∧ Nw w0 w') := by
  have h1c := hc.one
  have hql := q_len hc
  have hcl := hc.l
  have hcf := hc.f
  have hcm := hc.m
  have hlm := hs.lm
  refine fn_of (n := 50) (args := [c.v]) Tryz.func26 rfl rfl rfl (W_seq (W_region ?_))
  refine L_new (.plain rfl) rfl rfl (r_boxa rfl) (fun w1 b1 hb1 eb1 hs1 c1 => (L_r (r_ab rfl) (L_nil (W_seq (W_seq (W_region ?_))))))
  refine L_r (r_fieldb Tryz.underlying26 rfl (show _ = some 1 from rfl) rfl rfl (show _ = 7 from rfl)) (L_r (r_lb rfl rfl) ?_)
  refine L_r (r_lenSl Tryz.underlying24 (by conv => lhs; whnf) Sl.au) (L_r (r_mi rfl) (L_nil (W_block ?_)))
  refine W_loopF [1, 6, 7] (fun mz_ f W => ∃ (i : Nat), f 8 = .int .i64 i ∧ (i ≤ c.q.length ∧ (∀ j (hj : j < c.q.length), j < i → ¬ manyM c.q[j].m) ∧ Nw w0 W ∧ Bk W b1 #[.string c.p.name, .string c.p.super, c.vl, .bool c.p.ifc, .bool c.p.abs, .bool c.p.fin, c.vf, c.vm] 26) ∧ mz_ = c.q.length - i) ?_ ?_
  ·
   refine ⟨_, 0, rfl, ?_, rfl⟩
   exact ⟨by omega, fun j hj hji => absurd hji (by omega), Ch.au, Bk.au⟩
  rintro m0 g0 w2 ⟨i, hf8, hR0, rfl⟩
  refine W_as 8 hf8 rfl ?_
  clear hf8
  obtain ⟨hi, hn, hnw, hbc⟩ := hR0
  have hz := hnw.size
  refine W_seq (W_region (L_r (r_lss rfl rfl) (L_nil (W_seq ?_))))
  refine W_if rfl (fun h9 => ?_) (fun h9 => ?_)
  ·
   have hil : i < c.q.length := by omega
   have hrow := cellsCM_row c.q i hil
   have hxm := List.getElem_mem hil
   obtain ⟨x, hx⟩ : ∃ x, x = c.q[i] := ⟨_, rfl⟩
   rw [← hx] at hrow hxm
   have hxo := hc.ms x hxm
   have h1x := hxo.one
   have hxp := hxo.p
   have hxc := hxo.c
   have hxk := hxo.k
   refine W_skip (W_seq (W_block (W_seq (W_region ?_))))
   refine L_r (r_ix Tryz.underlying24 (show _ = some 7 from rfl) (by conv => lhs; whnf) rfl Sl.au) ?_
   refine L_r (r_loadSlrow (us := [.string x.m.name, x.vp, .string x.m.result, .bool x.m.abs, .int .i64 x.m.locals, x.vc, x.vk]) Tryz.underlying43 rfl rfl rfl rfl Sl.au (by exact hrow)) ?_
   refine L_new (.plain rfl) rfl rfl (r_alloca rfl) (fun w3 b4 hb4 eb3 hs3 c3 => ?_)
   refine L_storerow (.plain rfl) rfl rfl Bk.au (by first | rfl | (simp; done) | assumption) (by first | rfl | assumption) (by first | rfl | (simp [Value.oneCell']; done) | assumption) (fun w4 hb4 hs4 c4 => (L_nil (W_seq (W_region ?_))))
   refine L_r (r_fieldb Tryz.underlying43 rfl (show _ = some 1 from rfl) rfl rfl (show _ = 1 from rfl)) (L_r (r_lb rfl rfl) ?_)
   refine L_r (r_lenSl Tryz.underlying22 (by conv => lhs; whnf) Sl.au) (L_r (r_gtr rfl rfl) (L_r (r_mb rfl) ?_))
   refine L_case (d := 16) rfl (fun h16 => ?_) (fun h16 => ?_)
   ·
    refine L_ps (L_ps (L_ps (L_ps (L_r (r_pt rfl rfl) (L_r (r_mb rfl) (L_ps (L_ps (L_ps ?_))))))))
    refine L_ps (L_r (r_pt rfl rfl) (L_r (r_mb rfl) (L_ps (L_ps (L_ps (L_r (r_pt rfl rfl) (L_nil ?_)))))))
    refine W_true rfl (W_seq (W_region (L_r (r_ab rfl) (L_nil (W_ret ?_)))))
    refine ret1 (v := .bool _) rfl rfl ?_
    refine ⟨?_, Ch.au⟩
    first
    | exact bool_t (.inl ⟨x.m, q_mem hc hxm, by unfold manyM; omega⟩)
    | exact bool_t (.inr (by omega))
    | (refine bool_dec ⟨fun k => .inr (by omega), fun k => ?_⟩
       rcases k with ⟨m, hm, k⟩ | k
       · exfalso
         rw [← hc.e] at hm
         obtain ⟨y, hy, rfl⟩ := List.mem_map.1 hm
         obtain ⟨j, hj, rfl⟩ := List.mem_iff_getElem.1 hy
         exact hn j hj (by omega) k
       · omega)
   ·
    refine L_g (r_fieldb Tryz.underlying43 rfl (show _ = some 1 from rfl) rfl rfl (show _ = 6 from rfl)) ?_
    refine L_g (r_lb rfl rfl) ?_
    refine L_g (r_lenSl Tryz.underlying41 (by conv => lhs; whnf) Sl.au) ?_
    refine L_g (r_gtr rfl rfl) (L_r (r_pf rfl rfl) (L_r (r_mb rfl) ?_))
    refine L_case (d := 22) rfl (fun h22 => ?_) (fun h22 => ?_)
    ·
     refine L_ps (L_ps (L_ps (L_ps (L_r (r_pt rfl rfl) (L_r (r_mb rfl) (L_ps (L_ps (L_ps ?_))))))))
     refine L_r (r_pt rfl rfl) (L_nil ?_)
     refine W_true rfl (W_seq (W_region (L_r (r_ab rfl) (L_nil (W_ret ?_)))))
     refine ret1 (v := .bool _) rfl rfl ?_
     refine ⟨?_, Ch.au⟩
     first
     | exact bool_t (.inl ⟨x.m, q_mem hc hxm, by unfold manyM; omega⟩)
     | exact bool_t (.inr (by omega))
     | (refine bool_dec ⟨fun k => .inr (by omega), fun k => ?_⟩
        rcases k with ⟨m, hm, k⟩ | k
        · exfalso
          rw [← hc.e] at hm
          obtain ⟨y, hy, rfl⟩ := List.mem_map.1 hm
          obtain ⟨j, hj, rfl⟩ := List.mem_iff_getElem.1 hy
          exact hn j hj (by omega) k
        · omega)
    ·
     refine L_g (r_fieldb Tryz.underlying43 rfl (show _ = some 1 from rfl) rfl rfl (show _ = 5 from rfl)) ?_
     refine L_g (r_lb rfl rfl) ?_
     refine L_g (r_lenSl Tryz.underlying40 (by conv => lhs; whnf) Sl.au) ?_
     refine L_g (r_gtr rfl rfl) (L_r (r_pf rfl rfl) (L_r (r_mb rfl) ?_))
     refine L_case (d := 28) rfl (fun h28 => ?_) (fun h28 => ?_)
     ·
      refine L_ps (L_ps (L_ps (L_r (r_pt rfl rfl) (L_nil ?_))))
      refine W_true rfl (W_seq (W_region (L_r (r_ab rfl) (L_nil (W_ret ?_)))))
      refine ret1 (v := .bool _) rfl rfl ?_
      refine ⟨?_, Ch.au⟩
      first
      | exact bool_t (.inl ⟨x.m, q_mem hc hxm, by unfold manyM; omega⟩)
      | exact bool_t (.inr (by omega))
      | (refine bool_dec ⟨fun k => .inr (by omega), fun k => ?_⟩
         rcases k with ⟨m, hm, k⟩ | k
         · exfalso
           rw [← hc.e] at hm
           obtain ⟨y, hy, rfl⟩ := List.mem_map.1 hm
           obtain ⟨j, hj, rfl⟩ := List.mem_iff_getElem.1 hy
           exact hn j hj (by omega) k
         · omega)
     ·
      refine L_g (r_fieldb Tryz.underlying43 rfl (show _ = some 1 from rfl) rfl rfl (show _ = 4 from rfl)) ?_
      refine L_g (r_lb rfl rfl) ?_
      refine L_g (r_gtr rfl rfl) (L_r (r_pf rfl rfl) (L_nil ?_))
      refine W_if rfl (fun h32 => ?_) (fun h32 => ?_)
      ·
       refine W_seq (W_region (L_r (r_ab rfl) (L_nil (W_ret ?_))))
       refine ret1 (v := .bool _) rfl rfl ?_
       refine ⟨?_, Ch.au⟩
       first
       | exact bool_t (.inl ⟨x.m, q_mem hc hxm, by unfold manyM; omega⟩)
       | exact bool_t (.inr (by omega))
       | (refine bool_dec ⟨fun k => .inr (by omega), fun k => ?_⟩
          rcases k with ⟨m, hm, k⟩ | k
          · exfalso
            rw [← hc.e] at hm
            obtain ⟨y, hy, rfl⟩ := List.mem_map.1 hm
            obtain ⟨j, hj, rfl⟩ := List.mem_iff_getElem.1 hy
            exact hn j hj (by omega) k
          · omega)
      ·
       refine W_skip (W_region ?_)
       refine L_r (r_add rfl rfl (by first | exact wr_i64 (by omega) | rfl)) (L_r (r_mi rfl) (L_nil ?_))
       refine ⟨⟨fx2, fx2, fx2, trivial⟩, _, ?_, i + 1, rfl, ?_, rfl⟩
       · omega
       refine ⟨by omega, fun j hj hji => ?_, Ch.au, Bk.au⟩
       rcases Nat.lt_or_ge j i with h | h
       · exact hn j hj h
       ·
        have e : j = i := by omega
        subst e
        rw [← hx]
        unfold manyM
        omega
  ·
   refine W_exit ?_
   repeat (first | refine blk_hit ?_ | refine blk_miss rfl ?_)
   refine W_seq (W_region ?_)
   refine L_r (r_fieldb Tryz.underlying26 rfl (show _ = some 1 from rfl) rfl rfl (show _ = 2 from rfl)) (L_r (r_lb rfl rfl) ?_)
   refine L_r (r_lenSl Tryz.underlying22 (by conv => lhs; whnf) Sl.au) (L_r (r_gtr rfl rfl) (L_r (r_mb rfl) ?_))
   refine L_case (d := 38) rfl (fun h38 => ?_) (fun h38 => ?_)
   ·
    refine L_ps (L_ps (L_ps (L_ps (L_r (r_pt rfl rfl) (L_r (r_mb rfl) (L_ps (L_ps (L_ps ?_))))))))
    refine L_ps (L_r (r_pt rfl rfl) (L_r (r_ab rfl) (L_nil (W_ret ?_))))
    refine ret1 (v := .bool _) rfl rfl ?_
    refine ⟨?_, Ch.au⟩
    first
    | exact bool_t (.inl ⟨x.m, q_mem hc hxm, by unfold manyM; omega⟩)
    | exact bool_t (.inr (by omega))
    | (refine bool_dec ⟨fun k => .inr (by omega), fun k => ?_⟩
       rcases k with ⟨m, hm, k⟩ | k
       · exfalso
         rw [← hc.e] at hm
         obtain ⟨y, hy, rfl⟩ := List.mem_map.1 hm
         obtain ⟨j, hj, rfl⟩ := List.mem_iff_getElem.1 hy
         exact hn j hj (by omega) k
       · omega)
   ·
    refine L_g (r_fieldb Tryz.underlying26 rfl (show _ = some 1 from rfl) rfl rfl (show _ = 6 from rfl)) ?_
    refine L_g (r_lb rfl rfl) ?_
    refine L_g (r_lenSl Tryz.underlying23 (by conv => lhs; whnf) Sl.au) ?_
    refine L_g (r_gtr rfl rfl) (L_r (r_pf rfl rfl) (L_r (r_mb rfl) ?_))
    refine L_case (d := 44) rfl (fun h44 => ?_) (fun h44 => ?_)
    ·
     refine L_ps (L_ps (L_ps (L_ps (L_r (r_pt rfl rfl) (L_r (r_ab rfl) (L_nil (W_ret ?_)))))))
     refine ret1 (v := .bool _) rfl rfl ?_
     refine ⟨?_, Ch.au⟩
     first
     | exact bool_t (.inl ⟨x.m, q_mem hc hxm, by unfold manyM; omega⟩)
     | exact bool_t (.inr (by omega))
     | (refine bool_dec ⟨fun k => .inr (by omega), fun k => ?_⟩
        rcases k with ⟨m, hm, k⟩ | k
        · exfalso
          rw [← hc.e] at hm
          obtain ⟨y, hy, rfl⟩ := List.mem_map.1 hm
          obtain ⟨j, hj, rfl⟩ := List.mem_iff_getElem.1 hy
          exact hn j hj (by omega) k
        · omega)
    ·
     refine L_g (r_fieldb Tryz.underlying26 rfl (show _ = some 1 from rfl) rfl rfl (show _ = 7 from rfl)) ?_
     refine L_g (r_lb rfl rfl) ?_
     refine L_g (r_lenSl Tryz.underlying24 (by conv => lhs; whnf) Sl.au) ?_
     refine L_g (r_gtr rfl rfl) (L_r (r_pf rfl rfl) (L_r (r_ab rfl) (L_nil (W_ret ?_))))
     refine ret1 (v := .bool _) rfl rfl ?_
     refine ⟨?_, Ch.au⟩
     first
     | exact bool_t (.inl ⟨x.m, q_mem hc hxm, by unfold manyM; omega⟩)
     | exact bool_t (.inr (by omega))
     | (refine bool_dec ⟨fun k => .inr (by omega), fun k => ?_⟩
        rcases k with ⟨m, hm, k⟩ | k
        · exfalso
          rw [← hc.e] at hm
          obtain ⟨y, hy, rfl⟩ := List.mem_map.1 hm
          obtain ⟨j, hj, rfl⟩ := List.mem_iff_getElem.1 hy
          exact hn j hj (by omega) k
        · omega)
end Go.Proofs.YthpknpfhpkkheaaGreatDoor

namespace Go.Proofs.YthpknpfhpkkheaaGreatDoor
open Go Go.RowKit
set_option linter.unusedVariables false
set_option linter.unusedSimpArgs false
set_option maxRecDepth 100000
section
variable (c : CC)
abbrev nmsC : List ByteArray := c.p.name :: c.p.super :: c.p.like
def r26 : Prop := ¬ ((nmsC c).all fun p => decide (classP p)) = true ∨ decide (c.p.name ∈ c.p.super :: c.p.like) = true ∨ ¬ decide ((c.p.like.map fun s => s).Nodup) = true
def r39 : Prop := c.p.ifc = true ∧ (¬ c.p.abs = true ∨ c.p.super ≠ objB ∨ 0 < c.p.fields.length ∨ (c.q.any fun y => !y.m.abs) = true)
def r61 : Prop := (c.p.abs = true ∧ c.p.fin = true) ∨ ((c.q.any fun y => y.m.abs) = true ∧ ¬ c.p.abs = true)
def r76 : Prop := ¬ decide ((c.p.fields.map fun f => f.name).Nodup) = true ∨ ¬ decide ((c.q.map fun y => y.m.name).Nodup) = true
noncomputable instance : Decidable (r26 c) := Classical.propDecidable _
noncomputable instance : Decidable (r39 c) := Classical.propDecidable _
noncomputable instance : Decidable (r61 c) := Classical.propDecidable _
noncomputable instance : Decidable (r76 c) := Classical.propDecidable _
theorem cls_iff {w : World} (hc : c.ok w) : clsP c.p ↔ ¬ r26 c ∧ ¬ r39 c ∧ ¬ r61 c ∧ ¬ r76 c ∧ (c.p.fields.all fun f => decide (fldP f)) = true ∧ (c.q.all fun y => decide (mthP y.m)) = true := by
  have hm : ∀ P : Mth → Prop, (∀ y ∈ c.q, P y.m) ↔ ∀ m ∈ c.p.ms, P m := fun P => by
    rw [← hc.e]
    constructor
    ·
     intro h m hm
     obtain ⟨y, hy, rfl⟩ := List.mem_map.1 hm
     exact h y hy
    ·
     intro h y hy
     exact h _ (List.mem_map_of_mem hy)
  have hn : (c.q.map fun y => y.m.name) = c.p.ms.map Mth.name := by rw [← hc.e, List.map_map]; rfl
  have ha : (c.q.any fun y => y.m.abs) = true ↔ ∃ m ∈ c.p.ms, m.abs = true := by
    rw [← hc.e, List.any_eq_true]
    constructor
    · rintro ⟨y, hy, h⟩; exact ⟨_, List.mem_map_of_mem hy, h⟩
    ·
     rintro ⟨m, hm, h⟩
     obtain ⟨y, hy, rfl⟩ := List.mem_map.1 hm
     exact ⟨y, hy, h⟩
  have hb : (c.q.any fun y => !y.m.abs) = true ↔ ∃ m ∈ c.p.ms, m.abs = false := by
    rw [← hc.e, List.any_eq_true]
    constructor
    · rintro ⟨y, hy, h⟩; exact ⟨_, List.mem_map_of_mem hy, by simpa using h⟩
    ·
     rintro ⟨m, hm, h⟩
     obtain ⟨y, hy, rfl⟩ := List.mem_map.1 hm
     exact ⟨y, hy, by simpa using h⟩
  have e26 : ¬ r26 c ↔ classP c.p.name ∧ classP c.p.super ∧ (∀ l ∈ c.p.like, classP l) ∧ c.p.name ≠ c.p.super ∧ c.p.name ∉ c.p.like ∧ c.p.like.Nodup := by
    unfold r26
    simp only [not_or, Classical.not_not, List.all_cons, Bool.and_eq_true, decide_eq_true_eq, List.all_eq_true, List.mem_cons, List.map_id']
    constructor
    · rintro ⟨⟨a, b, d⟩, e, f⟩; exact ⟨a, b, d, e.1, e.2, f⟩
    · rintro ⟨a, b, d, e, f, g⟩; exact ⟨⟨a, b, d⟩, ⟨e, f⟩, g⟩
  have e39 : ¬ r39 c ↔ (c.p.ifc = true → c.p.abs = true ∧ c.p.super = objB ∧ c.p.fields = [] ∧ ∀ m ∈ c.p.ms, m.abs = true) := by
    unfold r39
    rw [hb]
    constructor
    ·
     intro h hi
     refine ⟨Classical.byContradiction fun k => h ⟨hi, .inl k⟩, Classical.byContradiction fun k => h ⟨hi, .inr (.inl k)⟩, ?_, fun m hm => ?_⟩
     ·
      rcases Nat.eq_zero_or_pos c.p.fields.length with k | k
      · exact List.length_eq_zero_iff.1 k
      · exact absurd ⟨hi, .inr (.inr (.inl k))⟩ h
     ·
      cases hk : m.abs with
      | true => rfl
      | false => exact absurd ⟨hi, .inr (.inr (.inr ⟨m, hm, hk⟩))⟩ h
    ·
     rintro h ⟨hi, k⟩
     obtain ⟨h1, h2, h3, h4⟩ := h hi
     rcases k with k | k | k | ⟨m, hm, k⟩
     · exact k h1
     · exact k h2
     · rw [h3] at k; exact absurd k (by decide)
     · rw [h4 m hm] at k; cases k
  have e61 : ¬ r61 c ↔ ¬ (c.p.abs = true ∧ c.p.fin = true) ∧ ∀ m ∈ c.p.ms, m.abs = true → c.p.abs = true := by
    unfold r61
    rw [ha]
    constructor
    ·
     intro h
     exact ⟨fun k => h (.inl k), fun m hm k => Classical.byContradiction fun k2 => h (.inr ⟨⟨m, hm, k⟩, k2⟩)⟩
    ·
     rintro ⟨h1, h2⟩ (k | ⟨⟨m, hm, k⟩, k2⟩)
     · exact h1 k
     · exact k2 (h2 m hm k)
  have e76 : ¬ r76 c ↔ (c.p.fields.map CF.name).Nodup ∧ (c.p.ms.map Mth.name).Nodup := by
    unfold r76
    rw [hn]
    simp only [not_or, Classical.not_not, decide_eq_true_eq]
  have eX : (c.p.fields.all fun f => decide (fldP f)) = true ↔ ∀ f ∈ c.p.fields, memP f.name ∧ rightK f.kind := by
    rw [List.all_eq_true]; simp only [decide_eq_true_eq]; rfl
  have eY : (c.q.all fun y => decide (mthP y.m)) = true ↔ ∀ m ∈ c.p.ms, mthP m := by
    rw [List.all_eq_true, ← hm]; simp only [decide_eq_true_eq]
  rw [e26, e39, e61, e76, eX, eY]
  constructor
  ·
   intro h
   exact ⟨⟨h.name, h.super, fun l hl => (h.like l hl).1, h.ne, fun k => (h.like _ k).2 rfl, h.likeN⟩, h.ifc, ⟨h.fin, h.abs⟩, ⟨h.fieldsN, h.msN⟩, h.fields, h.ms⟩
  ·
   rintro ⟨⟨a1, a2, a3, a4, a5, a6⟩, b, ⟨d1, d2⟩, ⟨e1, e2⟩, f, g⟩
   exact ⟨a1, a2, a4, fun l hl => ⟨a3 l hl, fun k => a5 (k ▸ hl)⟩, a6, f, e1, g, e2, b, d1, d2⟩
end
set_option maxHeartbeats 2000000 in
theorem right_walk (g : Nat) (c : CC) (w0 : World) (hG : Gv g w0) (hb : g ≤ w0.heap.size) (hc : c.ok w0) (hs : c.p.sz) (hlk : c.p.like.length ≤ 1000000000000) : Does Tryz.prog 27 #[c.v] w0 (fun r w' => r = .bool (decide (clsP c.p)) ∧ Nw w0 w') := by
  have h1c := hc.one
  have hql := q_len hc
  have hcl := hc.l
  have hcf := hc.f
  have hcm := hc.m
  have hlm := hs.lm
  have hll := hs.ll
  have hlf := hs.lf
  have hcw := fun W (k : Nw w0 W) => hc.nw k
  have key := cls_iff c hc
  obtain ⟨bN, hbN⟩ : ∃ b, b = ((nmsC c).all fun p => decide (classP p)) := ⟨_, rfl⟩
  obtain ⟨bO, hbO⟩ : ∃ b, b = decide (c.p.name ∈ c.p.super :: c.p.like) := ⟨_, rfl⟩
  obtain ⟨bL, hbL⟩ : ∃ b, b = decide ((c.p.like.map fun s => s).Nodup) := ⟨_, rfl⟩
  obtain ⟨bA, hbA⟩ : ∃ b, b = (c.q.any fun y => y.m.abs) := ⟨_, rfl⟩
  obtain ⟨bC, hbC⟩ : ∃ b, b = (c.q.any fun y => !y.m.abs) := ⟨_, rfl⟩
  obtain ⟨bF, hbF⟩ : ∃ b, b = decide ((c.p.fields.map fun f => f.name).Nodup) := ⟨_, rfl⟩
  obtain ⟨bM, hbM⟩ : ∃ b, b = decide ((c.q.map fun y => y.m.name).Nodup) := ⟨_, rfl⟩
  obtain ⟨bX, hbX⟩ : ∃ b, b = (c.p.fields.all fun f => decide (fldP f)) := ⟨_, rfl⟩
  obtain ⟨bY, hbY⟩ : ∃ b, b = (c.q.all fun y => decide (mthP y.m)) := ⟨_, rfl⟩
  have key : clsP c.p ↔ ¬ (¬ bN = true ∨ bO = true ∨ ¬ bL = true) ∧ ¬ (c.p.ifc = true ∧ (¬ c.p.abs = true ∨ c.p.super ≠ objB ∨ 0 < c.p.fields.length ∨ bC = true)) ∧ ¬ ((c.p.abs = true ∧ c.p.fin = true) ∨ (bA = true ∧ ¬ c.p.abs = true)) ∧ ¬ (¬ bF = true ∨ ¬ bM = true) ∧ bX = true ∧ bY = true := by
    rw [hbN, hbO, hbL, hbA, hbC, hbF, hbM, hbX, hbY]; exact key
  refine fn_of (n := 95) (args := [c.v]) Tryz.func27 rfl rfl rfl (W_seq (W_region ?_))
  refine L_new (.plain rfl) rfl rfl (r_boxa rfl) (fun w1 b1 hb1 eb1 hs1 c1 => (L_r (r_ab rfl) (L_nil (W_seq (W_region ?_)))))
  refine L_r (r_fieldb Tryz.underlying26 rfl (show _ = some 1 from rfl) rfl rfl (show _ = 0 from rfl)) (L_r (r_lb rfl rfl) ?_)
  refine L_r (r_fieldb Tryz.underlying26 rfl (show _ = some 1 from rfl) rfl rfl (show _ = 1 from rfl)) (L_r (r_lb rfl rfl) ?_)
  refine L_build1o [.string _, .string _] Tryz.underlying22 rfl rfl rfl (.plain rfl) rfl (by rfl) (by rfl) (by rfl) (fun v11 w2 ho11 eb2 hs2 c2 => ?_)
  refine L_r (r_fieldb Tryz.underlying26 rfl (show _ = some 1 from rfl) rfl rfl (show _ = 2 from rfl)) (L_r (r_lb rfl rfl) ?_)
  refine L_apow Tryz.underlying22 str_info rfl (by decide) (.plain rfl) rfl (by conv => lhs; whnf) (by conv => lhs; whnf) (ow_lit ho11) Sl.au (fun y hy => by obtain ⟨s, _, rfl⟩ := List.mem_map.1 hy; rfl) (by unfold maxLen; omega) (by omega) (by omega) (fun v14 w3 ho14 c3 hob14 => ?_)
  have hz3 := c3.size
  have hNs : Sl w3 v14 1 (c.p.like.length + 2) (scells (nmsC c)) := by have h := ho14.sl; simpa [scells, Nat.add_comm, Nat.add_left_comm] using h
  refine L_r (r_av) (L_nil (W_seq ?_))
  refine W_draw (fun W => Bk W b1 #[.string c.p.name, .string c.p.super, c.vl, .bool c.p.ifc, .bool c.p.abs, .bool c.p.fin, c.vf, c.vm] 26) 6 (m := 6) (by kernel_rfl) rfl (fun w4 c4 hs4 => ?_)
  refine held Bk.au (fun hS => ?_)
  refine D_t 0 rfl (fun W hW => r_mv) ?_
  refine D_pure 1 rfl (by kernel_rfl) (by kernel_rfl) (by kernel_rfl) (by kernel_rfl) (.plain rfl) rfl rfl (by assumption) (cut_l (w := w4) Tryz.underlying22 (show _ = some 1 from rfl) (by conv => lhs; whnf) Sl.au rfl (by omega) (by omega)) ?_
  rintro v16 ⟨hv16, ho16⟩
  refine D_t 2 rfl (fun W hW => r_fieldb Tryz.underlying26 rfl (show _ = some 1 from rfl) rfl rfl (show _ = 0 from rfl)) ?_
  refine D_t 3 rfl (fun W hW => r_loadb rfl rfl (by exact hW) (by first | assumption | (conv => lhs; simp only [List.getElem?_toArray, List.getElem?_cons_succ, List.getElem?_cons_zero]))) ?_
  refine D_ev 4 (by kernel_rfl) rfl ?_
  refine L_call (.plain rfl) rfl rfl (r_call Tryz.func53 rfl rfl rfl (by rfl)) (conts_walk v16 (c.p.super :: c.p.like) c.p.name _ Sl.au (by simp; omega)) ?_
  rintro v19 w5 ⟨rfl, c5⟩
  have hz5 := c5.size
  rw [← hbO]
  refine L_nil ?_
  refine heldK Bk.au (fun hS => ?_)
  refine D_t 5 rfl (fun W hW => r_ab rfl) ?_
  refine D_done (by kernel_rfl) (W_seq (W_region ?_))
  refine L_r (r_fieldb Tryz.underlying26 rfl (show _ = some 1 from rfl) rfl rfl (show _ = 7 from rfl)) (L_r (r_lb rfl rfl) ?_)
  refine L_call (.plain rfl) rfl rfl (r_call Tryz.func54 rfl rfl rfl (by rfl)) (cf_M c.q c.vm 55 [] (fun y => y.m.abs) _ (hcw _ Ch.au).m (by omega) ⟨_, _, Tryz.func55, rfl, rfl⟩ (fun y hy W k => ra1_walk y W (hc.ms y hy).one)) ?_
  rintro v22 w6 ⟨rfl, c6⟩
  have hz6 := c6.size
  rw [← hbA]
  refine L_r (r_ab rfl) (L_nil (W_seq (W_region ?_)))
  refine L_r (r_fieldb Tryz.underlying26 rfl (show _ = some 1 from rfl) rfl rfl (show _ = 7 from rfl)) (L_r (r_lb rfl rfl) ?_)
  refine L_call (.plain rfl) rfl rfl (r_call Tryz.func54 rfl rfl rfl (by rfl)) (cf_M c.q c.vm 56 [] (fun y => !y.m.abs) _ (hcw _ Ch.au).m (by omega) ⟨_, _, Tryz.func56, rfl, rfl⟩ (fun y hy W k => ra2_walk y W (hc.ms y hy).one)) ?_
  rintro v25 w7 ⟨rfl, c7⟩
  have hz7 := c7.size
  rw [← hbC]
  refine L_r (r_ab rfl) (L_nil (W_seq (W_block ?_)))
  refine W_cutF [1, 5, 6] (fun f W => f 26 = .bool (decide (¬ bN = true ∨ bO = true ∨ ¬ bL = true)) ∧ (Bk W b1 #[.string c.p.name, .string c.p.super, c.vl, .bool c.p.ifc, .bool c.p.abs, .bool c.p.fin, c.vf, c.vm] 26 ∧ Nw w0 W)) ?_ ?_
  ·
   refine W_region (L_r (r_mv) ?_)
   refine L_call (.plain rfl) rfl rfl (r_call Tryz.func57 rfl rfl rfl (by rfl)) (every_S (nmsC c) v14 58 [] (fun p => decide (classP p)) _ Sl.au (by simp; omega) ⟨_, _, Tryz.func58, rfl, rfl⟩ (fun p hp W k => class_walk p W)) ?_
   rintro v28 w8 ⟨rfl, c8⟩
   have hz8 := c8.size
   rw [← hbN]
   refine L_r (r_not rfl) (L_r (r_mb rfl) ?_)
   refine L_caseb (d := 30) rfl (fun h30 => ?_) (fun h30 => ?_)
   ·
    refine L_ps (L_r (r_pt rfl rfl) (L_r (r_mb rfl) (L_ps (L_ps (L_ps (L_ps (L_r (r_pt rfl rfl) (L_r (r_ab rfl) ?_))))))))
    refine L_nil ?_
    refine ⟨⟨fx2, fx2, fx2, trivial⟩, (dec_t (by clear key hbN hbO hbL hbA hbC hbF hbM hbX hbY; simp_all; done)), ?_⟩
    exact ⟨Bk.au, Ch.au⟩
   ·
    refine L_g (r_mb rfl) (L_r (r_pf rfl rfl) (L_r (r_mb rfl) ?_))
    refine L_caseb (d := 33) rfl (fun h33 => ?_) (fun h33 => ?_)
    ·
     refine L_ps (L_ps (L_ps (L_ps (L_r (r_pt rfl rfl) (L_r (r_ab rfl) (L_nil ?_))))))
     refine ⟨⟨fx2, fx2, fx2, trivial⟩, (dec_t (by clear key hbN hbO hbL hbA hbC hbF hbM hbX hbY; simp_all; done)), ?_⟩
     exact ⟨Bk.au, Ch.au⟩
    ·
     refine L_g (r_fieldb Tryz.underlying26 rfl (show _ = some 1 from rfl) rfl rfl (show _ = 2 from rfl)) ?_
     refine L_g (r_lb rfl rfl) ?_
     refine L_call (.yes 6 false rfl rfl) rfl rfl (r_call Tryz.func59 rfl rfl rfl (by rfl)) (once_S c.p.like c.vl 60 (fun s => s) _ (hcw _ Ch.au).l (by omega) ⟨_, _, Tryz.func60, rfl, rfl⟩ (fun p hp W k => ra3_walk p W)) ?_
     rintro v36 w9 ⟨rfl, c9⟩
     have hz9 := c9.size
     rw [← hbL]
     refine L_g (r_not rfl) (L_r (r_pf rfl rfl) (L_r (r_ab rfl) (L_nil ?_)))
     refine ⟨⟨fx2, fx2, fx2, trivial⟩, (dec_b (by clear key hbN hbO hbL hbA hbC hbF hbM hbX hbY; simp_all; done)), ?_⟩
     exact ⟨Bk.au, Ch.au⟩
  rintro gcr5 w10 ⟨hf26, hCr5⟩
  refine W_as 26 hf26 rfl ?_
  clear hf26
  obtain ⟨hbx5, hnw5⟩ := hCr5
  have hz5 := hnw5.size
  refine W_if rfl (fun h26 => ?_) (fun h26 => ?_)
  ·
   refine W_seq (W_region (L_r (r_ab rfl) (L_nil (W_ret ?_))))
   refine ret1 (v := .bool _) rfl rfl ?_
   refine ⟨?_, Ch.au⟩
   (try simp only [decide_eq_true_eq, decide_eq_false_iff_not] at *)
   first
   | exact bool_f (fun h => by rw [key] at h; obtain ⟨q1, q2, q3, q4, q5, q6⟩ := h; first | exact q1 (by assumption) | exact q2 (by assumption) | exact q3 (by assumption) | exact q4 (by assumption) | simp_all)
   | exact dec_b (by rw [key]; exact ⟨fun k => ⟨by assumption, by assumption, by assumption, by assumption, by assumption, k⟩, fun k => k.2.2.2.2.2⟩)
  ·
   refine W_cutF [1, 5] (fun f W => f 39 = .bool (decide (c.p.ifc = true ∧ (¬ c.p.abs = true ∨ c.p.super ≠ objB ∨ 0 < c.p.fields.length ∨ bC = true))) ∧ (Bk W b1 #[.string c.p.name, .string c.p.super, c.vl, .bool c.p.ifc, .bool c.p.abs, .bool c.p.fin, c.vf, c.vm] 26 ∧ Nw w0 W)) ?_ ?_
   ·
    refine W_region ?_
    refine L_r (r_fieldb Tryz.underlying26 rfl (show _ = some 1 from rfl) rfl rfl (show _ = 3 from rfl)) (L_r (r_lb rfl rfl) (L_r (r_mb rfl) ?_))
    refine L_caseb (d := 42) rfl (fun h42 => ?_) (fun h42 => ?_)
    ·
     refine L_g (r_fieldb Tryz.underlying26 rfl (show _ = some 1 from rfl) rfl rfl (show _ = 4 from rfl)) ?_
     refine L_g (r_lb rfl rfl) ?_
     refine L_g (r_not rfl) ?_
     refine L_g (r_mb rfl) ?_
     refine L_caseb (d := 46) rfl (fun h46 => ?_) (fun h46 => ?_)
     ·
      refine L_ps (L_ps (L_ps ?_))
      refine L_g (r_pt rfl rfl) ?_
      refine L_g (r_mb rfl) (L_ps (L_ps (L_ps (L_ps ?_))))
      refine L_g (r_pt rfl rfl) ?_
      refine L_g (r_mb rfl) (L_ps ?_)
      refine L_g (r_pt rfl rfl) (L_r (r_pt rfl rfl) (L_r (r_ab rfl) (L_nil ?_)))
      refine ⟨⟨fx2, fx2, trivial⟩, (dec_t (by clear key hbN hbO hbL hbA hbC hbF hbM hbX hbY; simp_all; done)), ?_⟩
      exact ⟨Bk.au, Ch.au⟩
     ·
      refine L_g (r_fieldb Tryz.underlying26 rfl (show _ = some 1 from rfl) rfl rfl (show _ = 1 from rfl)) ?_
      refine L_g (r_lb rfl rfl) ?_
      refine L_g (r_neqs rfl rfl) ?_
      refine L_g (r_pf rfl rfl) ?_
      refine L_g (r_mb rfl) ?_
      refine L_case (d := 51) rfl (fun h51 => ?_) (fun h51 => ?_)
      ·
       refine L_ps (L_ps (L_ps (L_ps ?_)))
       refine L_g (r_pt rfl rfl) ?_
       refine L_g (r_mb rfl) (L_ps ?_)
       refine L_g (r_pt rfl rfl) (L_r (r_pt rfl rfl) (L_r (r_ab rfl) (L_nil ?_)))
       refine ⟨⟨fx2, fx2, trivial⟩, (dec_t (by clear key hbN hbO hbL hbA hbC hbF hbM hbX hbY; simp_all; done)), ?_⟩
       exact ⟨Bk.au, Ch.au⟩
      ·
       refine L_g (r_fieldb Tryz.underlying26 rfl (show _ = some 1 from rfl) rfl rfl (show _ = 6 from rfl)) ?_
       refine L_g (r_lb rfl rfl) ?_
       refine L_g (r_lenSl Tryz.underlying23 (by conv => lhs; whnf) Sl.au) ?_
       refine L_g (r_gtr rfl rfl) ?_
       refine L_g (r_pf rfl rfl) ?_
       refine L_g (r_mb rfl) ?_
       refine L_case (d := 57) rfl (fun h57 => ?_) (fun h57 => ?_)
       ·
        refine L_ps ?_
        refine L_g (r_pt rfl rfl) (L_r (r_pt rfl rfl) (L_r (r_ab rfl) (L_nil ?_)))
        refine ⟨⟨fx2, fx2, trivial⟩, (dec_t (by clear key hbN hbO hbL hbA hbC hbF hbM hbX hbY; simp_all; done)), ?_⟩
        exact ⟨Bk.au, Ch.au⟩
       ·
        refine L_g (r_mb rfl) ?_
        refine L_g (r_pf rfl rfl) (L_r (r_pt rfl rfl) (L_r (r_ab rfl) (L_nil ?_)))
        refine ⟨⟨fx2, fx2, trivial⟩, (dec_b (by clear key hbN hbO hbL hbA hbC hbF hbM hbX hbY; simp_all; done)), ?_⟩
        exact ⟨Bk.au, Ch.au⟩
    ·
     refine L_ps (L_ps (L_ps (L_ps ?_)))
     refine L_pu ?_
     refine L_pu ?_
     refine L_pu (L_ps (L_ps ?_))
     refine L_pu ?_
     refine L_pu ?_
     refine L_pu ?_
     refine L_pu (L_ps (L_ps ?_))
     refine L_pu (L_ps (L_r (r_pf rfl rfl) (L_r (r_ab rfl) (L_nil ?_))))
     refine ⟨⟨fx2, fx2, trivial⟩, (dec_f (by clear key hbN hbO hbL hbA hbC hbF hbM hbX hbY; simp_all; done)), ?_⟩
     exact ⟨Bk.au, Ch.au⟩
   rintro gcr7 w11 ⟨hf39, hCr7⟩
   refine W_as 39 hf39 rfl ?_
   clear hf39
   obtain ⟨hbx7, hnw7⟩ := hCr7
   have hz7 := hnw7.size
   refine W_if rfl (fun h39 => ?_) (fun h39 => ?_)
   ·
    refine W_seq (W_region (L_r (r_ab rfl) (L_nil (W_ret ?_))))
    refine ret1 (v := .bool _) rfl rfl ?_
    refine ⟨?_, Ch.au⟩
    (try simp only [decide_eq_true_eq, decide_eq_false_iff_not] at *)
    first
    | exact bool_f (fun h => by rw [key] at h; obtain ⟨q1, q2, q3, q4, q5, q6⟩ := h; first | exact q1 (by assumption) | exact q2 (by assumption) | exact q3 (by assumption) | exact q4 (by assumption) | simp_all)
    | exact dec_b (by rw [key]; exact ⟨fun k => ⟨by assumption, by assumption, by assumption, by assumption, by assumption, k⟩, fun k => k.2.2.2.2.2⟩)
   ·
    refine W_cutF [1] (fun f W => f 61 = .bool (decide ((c.p.abs = true ∧ c.p.fin = true) ∨ (bA = true ∧ ¬ c.p.abs = true))) ∧ (Bk W b1 #[.string c.p.name, .string c.p.super, c.vl, .bool c.p.ifc, .bool c.p.abs, .bool c.p.fin, c.vf, c.vm] 26 ∧ Nw w0 W)) ?_ ?_
    ·
     refine W_region ?_
     refine L_r (r_fieldb Tryz.underlying26 rfl (show _ = some 1 from rfl) rfl rfl (show _ = 4 from rfl)) (L_r (r_lb rfl rfl) (L_r (r_mb rfl) ?_))
     refine L_caseb (d := 64) rfl (fun h64 => ?_) (fun h64 => ?_)
     ·
      refine L_g (r_fieldb Tryz.underlying26 rfl (show _ = some 1 from rfl) rfl rfl (show _ = 5 from rfl)) ?_
      refine L_g (r_lb rfl rfl) (L_r (r_pt rfl rfl) (L_r (r_mb rfl) ?_))
      refine L_caseb (d := 68) rfl (fun h68 => ?_) (fun h68 => ?_)
      ·
       refine L_ps (L_ps ?_)
       refine L_pu ?_
       refine L_pu ?_
       refine L_pu (L_ps (L_r (r_pt rfl rfl) (L_r (r_ab rfl) (L_nil ?_))))
       refine ⟨⟨fx2, trivial⟩, (dec_t (by clear key hbN hbO hbL hbA hbC hbF hbM hbX hbY; simp_all; done)), ?_⟩
       exact ⟨Bk.au, Ch.au⟩
      ·
       refine L_g (r_mb rfl) ?_
       refine L_g (r_mb rfl) ?_
       refine L_caseb (d := 70) rfl (fun h70 => ?_) (fun h70 => ?_)
       ·
        refine L_g (r_fieldb Tryz.underlying26 rfl (show _ = some 1 from rfl) rfl rfl (show _ = 4 from rfl)) ?_
        refine L_g (r_lb rfl rfl) ?_
        refine L_g (r_not rfl) ?_
        refine L_g (r_pt rfl rfl) (L_r (r_pf rfl rfl) (L_r (r_ab rfl) (L_nil ?_)))
        refine ⟨⟨fx2, trivial⟩, (dec_b (by clear key hbN hbO hbL hbA hbC hbF hbM hbX hbY; simp_all; done)), ?_⟩
        exact ⟨Bk.au, Ch.au⟩
       ·
        refine L_ps (L_ps (L_ps ?_))
        refine L_g (r_pf rfl rfl) (L_r (r_pf rfl rfl) (L_r (r_ab rfl) (L_nil ?_)))
        refine ⟨⟨fx2, trivial⟩, (dec_f (by clear key hbN hbO hbL hbA hbC hbF hbM hbX hbY; simp_all; done)), ?_⟩
        exact ⟨Bk.au, Ch.au⟩
     ·
      refine L_ps (L_ps (L_r (r_pf rfl rfl) (L_r (r_mb rfl) ?_)))
      refine L_g (r_mb rfl) ?_
      refine L_g (r_mb rfl) ?_
      refine L_caseb (d := 70) rfl (fun h70 => ?_) (fun h70 => ?_)
      ·
       refine L_g (r_fieldb Tryz.underlying26 rfl (show _ = some 1 from rfl) rfl rfl (show _ = 4 from rfl)) ?_
       refine L_g (r_lb rfl rfl) ?_
       refine L_g (r_not rfl) ?_
       refine L_g (r_pt rfl rfl) (L_r (r_pf rfl rfl) (L_r (r_ab rfl) (L_nil ?_)))
       refine ⟨⟨fx2, trivial⟩, (dec_b (by clear key hbN hbO hbL hbA hbC hbF hbM hbX hbY; simp_all; done)), ?_⟩
       exact ⟨Bk.au, Ch.au⟩
      ·
       refine L_ps (L_ps (L_ps ?_))
       refine L_g (r_pf rfl rfl) (L_r (r_pf rfl rfl) (L_r (r_ab rfl) (L_nil ?_)))
       refine ⟨⟨fx2, trivial⟩, (dec_f (by clear key hbN hbO hbL hbA hbC hbF hbM hbX hbY; simp_all; done)), ?_⟩
       exact ⟨Bk.au, Ch.au⟩
    rintro gcr9 w12 ⟨hf61, hCr9⟩
    refine W_as 61 hf61 rfl ?_
    clear hf61
    obtain ⟨hbx9, hnw9⟩ := hCr9
    have hz9 := hnw9.size
    refine W_if rfl (fun h61 => ?_) (fun h61 => ?_)
    ·
     refine W_seq (W_region (L_r (r_ab rfl) (L_nil (W_ret ?_))))
     refine ret1 (v := .bool _) rfl rfl ?_
     refine ⟨?_, Ch.au⟩
     (try simp only [decide_eq_true_eq, decide_eq_false_iff_not] at *)
     first
     | exact bool_f (fun h => by rw [key] at h; obtain ⟨q1, q2, q3, q4, q5, q6⟩ := h; first | exact q1 (by assumption) | exact q2 (by assumption) | exact q3 (by assumption) | exact q4 (by assumption) | simp_all)
     | exact dec_b (by rw [key]; exact ⟨fun k => ⟨by assumption, by assumption, by assumption, by assumption, by assumption, k⟩, fun k => k.2.2.2.2.2⟩)
    ·
     refine W_cutF [1] (fun f W => f 76 = .bool (decide (¬ bF = true ∨ ¬ bM = true)) ∧ (Bk W b1 #[.string c.p.name, .string c.p.super, c.vl, .bool c.p.ifc, .bool c.p.abs, .bool c.p.fin, c.vf, c.vm] 26 ∧ Nw w0 W)) ?_ ?_
     ·
      refine W_region ?_
      refine L_r (r_fieldb Tryz.underlying26 rfl (show _ = some 1 from rfl) rfl rfl (show _ = 6 from rfl)) (L_r (r_lb rfl rfl) ?_)
      refine L_call (.plain rfl) rfl rfl (r_call Tryz.func61 rfl rfl rfl (by rfl)) (once_F c.p.fields c.vf 62 (fun f => f.name) _ (hcw _ Ch.au).f (by omega) ⟨_, _, Tryz.func62, rfl, rfl⟩ (fun p hp W k => ra4_walk p W)) ?_
      rintro v79 w13 ⟨rfl, c13⟩
      have hz13 := c13.size
      rw [← hbF]
      refine L_r (r_not rfl) (L_r (r_mb rfl) ?_)
      refine L_caseb (d := 81) rfl (fun h81 => ?_) (fun h81 => ?_)
      ·
       refine L_ps (L_ps (L_ps (L_ps (L_r (r_pt rfl rfl) (L_r (r_ab rfl) (L_nil ?_))))))
       refine ⟨⟨fx2, trivial⟩, (dec_t (by clear key hbN hbO hbL hbA hbC hbF hbM hbX hbY; simp_all; done)), ?_⟩
       exact ⟨Bk.au, Ch.au⟩
      ·
       refine L_g (r_fieldb Tryz.underlying26 rfl (show _ = some 1 from rfl) rfl rfl (show _ = 7 from rfl)) ?_
       refine L_g (r_lb rfl rfl) ?_
       refine L_call (.yes 4 false rfl rfl) rfl rfl (r_call Tryz.func63 rfl rfl rfl (by rfl)) (once_M c.q c.vm 64 (fun y => y.m.name) _ (hcw _ Ch.au).m (fun y hy => (hc.ms y hy).one) (by omega) ⟨_, _, Tryz.func64, rfl, rfl⟩ (fun y hy W k => ra5_walk y W (hc.ms y hy).one)) ?_
       rintro v84 w14 ⟨rfl, c14⟩
       have hz14 := c14.size
       rw [← hbM]
       refine L_g (r_not rfl) (L_r (r_pf rfl rfl) (L_r (r_ab rfl) (L_nil ?_)))
       refine ⟨⟨fx2, trivial⟩, (dec_b (by clear key hbN hbO hbL hbA hbC hbF hbM hbX hbY; simp_all; done)), ?_⟩
       exact ⟨Bk.au, Ch.au⟩
     rintro gcr11 w15 ⟨hf76, hCr11⟩
     refine W_as 76 hf76 rfl ?_
     clear hf76
     obtain ⟨hbx11, hnw11⟩ := hCr11
     have hz11 := hnw11.size
     refine W_if rfl (fun h76 => ?_) (fun h76 => ?_)
     ·
      refine W_seq (W_region (L_r (r_ab rfl) (L_nil (W_ret ?_))))
      refine ret1 (v := .bool _) rfl rfl ?_
      refine ⟨?_, Ch.au⟩
      (try simp only [decide_eq_true_eq, decide_eq_false_iff_not] at *)
      first
      | exact bool_f (fun h => by rw [key] at h; obtain ⟨q1, q2, q3, q4, q5, q6⟩ := h; first | exact q1 (by assumption) | exact q2 (by assumption) | exact q3 (by assumption) | exact q4 (by assumption) | simp_all)
      | exact dec_b (by rw [key]; exact ⟨fun k => ⟨by assumption, by assumption, by assumption, by assumption, by assumption, k⟩, fun k => k.2.2.2.2.2⟩)
     ·
      refine W_skip (W_seq (W_region ?_))
      refine L_r (r_fieldb Tryz.underlying26 rfl (show _ = some 1 from rfl) rfl rfl (show _ = 6 from rfl)) (L_r (r_lb rfl rfl) ?_)
      refine L_call (.plain rfl) rfl rfl (r_call Tryz.func65 rfl rfl rfl (by rfl)) (every_F c.p.fields c.vf 66 [] (fun f => decide (fldP f)) _ (hcw _ Ch.au).f (by omega) ⟨_, _, Tryz.func66, rfl, rfl⟩ (fun f hf W k => ra6_walk f W (hs.fields f hf).2)) ?_
      rintro v89 w16 ⟨rfl, c16⟩
      have hz16 := c16.size
      rw [← hbX]
      refine L_r (r_mb rfl) ?_
      refine L_caseb (d := 90) rfl (fun h90 => ?_) (fun h90 => ?_)
      ·
       refine L_g (r_fieldb Tryz.underlying26 rfl (show _ = some 1 from rfl) rfl rfl (show _ = 7 from rfl)) ?_
       refine L_g (r_lb rfl rfl) ?_
       refine L_call (.yes 3 true rfl rfl) rfl rfl (r_call Tryz.func69 rfl rfl rfl (by rfl)) (every_M c.q c.vm 70 [] (fun y => decide (mthP y.m)) _ (hcw _ Ch.au).m (by omega) ⟨_, _, Tryz.func70, rfl, rfl⟩ (fun y hy W k => method_walk g y W (hG.nw Ch.au hb) (by have := k.size; omega) ((hc.ms y hy).nw Ch.au) (hs.ms y.m (q_mem hc hy)))) ?_
       rintro v93 w17 ⟨rfl, c17⟩
       have hz17 := c17.size
       rw [← hbY]
       refine L_r (r_pt rfl rfl) (L_r (r_ab rfl) (L_nil (W_ret ?_)))
       refine ret1 (v := .bool _) rfl rfl ?_
       refine ⟨?_, Ch.au⟩
       (try simp only [decide_eq_true_eq, decide_eq_false_iff_not] at *)
       first
       | exact bool_f (fun h => by rw [key] at h; obtain ⟨q1, q2, q3, q4, q5, q6⟩ := h; first | exact q1 (by assumption) | exact q2 (by assumption) | exact q3 (by assumption) | exact q4 (by assumption) | simp_all)
       | exact dec_b (by rw [key]; exact ⟨fun k => ⟨by assumption, by assumption, by assumption, by assumption, by assumption, k⟩, fun k => k.2.2.2.2.2⟩)
      ·
       refine L_ps (L_ps (L_ps (L_r (r_pf rfl rfl) (L_r (r_ab rfl) (L_nil (W_ret ?_))))))
       refine ret1 (v := .bool _) rfl rfl ?_
       refine ⟨?_, Ch.au⟩
       (try simp only [decide_eq_true_eq, decide_eq_false_iff_not] at *)
       first
       | exact bool_f (fun h => by rw [key] at h; obtain ⟨q1, q2, q3, q4, q5, q6⟩ := h; first | exact q1 (by assumption) | exact q2 (by assumption) | exact q3 (by assumption) | exact q4 (by assumption) | simp_all)
       | exact dec_b (by rw [key]; exact ⟨fun k => ⟨by assumption, by assumption, by assumption, by assumption, by assumption, k⟩, fun k => k.2.2.2.2.2⟩)
end Go.Proofs.YthpknpfhpkkheaaGreatDoor

namespace Go.Proofs.YthpknpfhpkkheaaGreatDoor
open Go Go.RowKit
set_option linter.unusedVariables false
set_option linter.unusedSimpArgs false
set_option maxRecDepth 100000
theorem check_walk_aux (c : Cls) : checkCls c = 51 ∧ manyP c ∨ checkCls c = 0 ∧ ¬ manyP c ∧ clsP c ∨ checkCls c = 50 ∧ ¬ manyP c ∧ ¬ clsP c := by
  unfold checkCls
  by_cases h : manyP c
  · rw [if_pos h]; exact .inl ⟨rfl, h⟩
  ·
   rw [if_neg h]
   by_cases h2 : clsP c
   · rw [if_pos h2]; exact .inr (.inl ⟨rfl, h, h2⟩)
   · rw [if_neg h2]; exact .inr (.inr ⟨rfl, h, h2⟩)
theorem ccheck_walk (g : Nat) (c : CC) (w0 : World) (hG : Gv g w0) (hb : g ≤ w0.heap.size) (hc : c.ok w0) (hs : c.p.sz) : Does Tryz.prog 13 #[c.v] w0 (fun r w' => r = .int .i64 (checkCls c.p) ∧ Nw w0 w') := by
  have h1c := hc.one
  have hx := check_walk_aux c.p
  refine fn_of (n := 10) (args := [c.v]) Tryz.func13 rfl rfl rfl (W_seq (W_region ?_))
  refine L_new (.plain rfl) rfl rfl (r_boxa rfl) (fun w1 b1 hb1 eb1 hs1 c1 => (L_r (r_ai rfl) (L_nil (W_seq (W_block (W_seq (W_region ?_)))))))
  refine L_r (r_loadrow Tryz.underlying26 rfl rfl Bk.au (by first | rfl | assumption)) ?_
  refine L_call (.plain rfl) rfl rfl (r_call Tryz.func26 rfl rfl rfl (by rfl)) (many_walk c _ (hc.nw Ch.au) hs) ?_
  rintro v5 w2 ⟨rfl, c2⟩
  have hz2 := c2.size
  refine L_r (r_ab rfl) (L_nil ?_)
  refine W_bool rfl (fun h3 => ?_) (fun h3 => ?_)
  ·
   refine W_seq (W_region (L_r (r_ai rfl) (L_nil (W_ret ?_))))
   refine ret1 (v := .int _ _) rfl rfl ?_
   refine ⟨?_, Ch.au⟩
   (try simp only [decide_eq_true_eq, decide_eq_false_iff_not] at *)
   rcases hx with ⟨e, k⟩ | ⟨e, k, k2⟩ | ⟨e, k, k2⟩ <;> first | (rw [e]; done) | (exfalso; simp_all; done)
  ·
   have hlk : c.p.like.length ≤ 1000000000000 := by
     have hnm : ¬ manyP c.p := by first | assumption | (intro hh; simp_all)
     unfold manyP at hnm
     omega
   refine W_seq (W_region ?_)
   refine L_r (r_loadrow Tryz.underlying26 rfl rfl Bk.au (by first | rfl | assumption)) ?_
   refine L_call (.plain rfl) rfl rfl (r_call Tryz.func27 rfl rfl rfl (by rfl)) (right_walk g c _ (hG.nw Ch.au hb) (by omega) (hc.nw Ch.au) hs hlk) ?_
   rintro v8 w3 ⟨rfl, c3⟩
   have hz3 := c3.size
   refine L_r (r_not rfl) (L_r (r_ab rfl) (L_nil ?_))
   refine W_bool rfl (fun h6 => ?_) (fun h6 => ?_)
   ·
    refine W_seq (W_region (L_r (r_ai rfl) (L_nil (W_ret ?_))))
    refine ret1 (v := .int _ _) rfl rfl ?_
    refine ⟨?_, Ch.au⟩
    (try simp only [decide_eq_true_eq, decide_eq_false_iff_not] at *)
    rcases hx with ⟨e, k⟩ | ⟨e, k, k2⟩ | ⟨e, k, k2⟩ <;> first | (rw [e]; done) | (exfalso; simp_all; done)
   ·
    refine W_skip (W_seq (W_region (L_r (r_ai rfl) (L_nil (W_ret ?_)))))
    refine ret1 (v := .int _ _) rfl rfl ?_
    refine ⟨?_, Ch.au⟩
    (try simp only [decide_eq_true_eq, decide_eq_false_iff_not] at *)
    rcases hx with ⟨e, k⟩ | ⟨e, k, k2⟩ | ⟨e, k, k2⟩ <;> first | (rw [e]; done) | (exfalso; simp_all; done)
/-! ### texts joined -/
def joinS (l : List ByteArray) (s : ByteArray) : ByteArray := ⟨(Lib.join (l.map (·.data.toList)) s.data.toList).toArray⟩
theorem joinS_size (l : List ByteArray) (s : ByteArray) : (joinS l s).size = (Lib.join (l.map (·.data.toList)) s.data.toList).length := by
  unfold joinS
  show (List.toArray _).size = _
  rw [List.size_toArray]
theorem bx5 : Builder.Extra Tryz.prog Tryz.laysJoin_ren :=
  { sizeBuilder := by kernel_rfl
    liesBuilder := by kernel_rfl
    t5 := Tryz.underlying5
    a5 := Tryz.isAgg5
    z5 := Tryz.sizeOf5
    v5 := Tryz.zeroValue5
    infoByte := by kernel_rfl
    cellsByte := by kernel_rfl
    sizeByte := by kernel_rfl
    neB5 := by decide }
theorem join_use (v : Value) (l : List ByteArray) (s : ByteArray) (w : World) (hv : Sl w v 1 l.length (scells l)) (hl : l.length ≤ 140737488355328) (hj : (joinS l s).size ≤ 140737488355328) :
    Does Tryz.prog 43 #[v, .string s] w (fun r w' => r = .string (joinS l s) ∧ Nw w w') := by
  rw [joinS_size] at hj
  have key : Calls Tryz.prog 43 #[v, .string s] w fun e w' => e = .returned (.string (joinS l s)) ∧ Below w.heap.size w w' := by
    obtain ⟨h0, ⟨A0, rfl, hn⟩ | ⟨b, o, c, cs, t, rfl, hc, hr, hx⟩⟩ := id hv
    ·
     have e : l = [] := List.length_eq_zero_iff.1 hn
     subst e
     exact (Any.strings_Join_none Tryz.laysJoin bx5 A0 0 s w).mono fun e w' ⟨he, hw⟩ => ⟨he, hw ▸ Below.refl _ _⟩
    · exact Any.strings_Join Tryz.laysJoin bx5 b o c l s w (fun j x hx2 => by
        have hu : (scells l)[j]? = some (.string x) := by unfold scells; rw [List.getElem?_map, hx2]; rfl
        exact hv.cell hu) hr.lt hl hc hj
  exact Calls.mono key fun e w' ⟨he, hw⟩ => ⟨_, he, rfl, hw.os, hw.tape, hw.output, hw.size, fun i hi _ => hw.block i hi⟩
def signS (m : Mth) : ByteArray := { data := #[40] } ++ joinS m.params { data := #[44] } ++ { data := #[41] } ++ m.result
theorem sign_walk (x : MM) (w0 : World) (hx : x.ok w0) (hl : x.m.params.length ≤ 140737488355328) (hj : (joinS x.m.params { data := #[44] }).size ≤ 140737488355328) (hr : x.m.result.size ≤ 140737488355328) : Does Tryz.prog 19 #[x.v] w0 (fun r w' => r = .string (signS x.m) ∧ Nw w0 w') := by
  have h1x := hx.one
  have hxp := hx.p
  have e40 : ({ data := #[40] } : ByteArray).size = 1 := rfl
  have e41 : ({ data := #[41] } : ByteArray).size = 1 := rfl
  refine fn_of (n := 11) (args := [x.v]) Tryz.func19 rfl rfl rfl (W_seq (W_region ?_))
  refine L_new (.plain rfl) rfl rfl (r_boxa rfl) (fun w1 b1 hb1 eb1 hs1 c1 => (L_r (r_as rfl) (L_nil (W_seq ?_))))
  refine W_draw (fun W => Bk W b1 #[.string x.m.name, x.vp, .string x.m.result, .bool x.m.abs, .int .i64 x.m.locals, x.vc, x.vk] 43) 9 (m := 9) (by kernel_rfl) rfl (fun w2 c2 hs2 => ?_)
  refine held Bk.au (fun hS => ?_)
  refine D_t 0 rfl (fun W hW => r_fieldb Tryz.underlying43 rfl (show _ = some 1 from rfl) rfl rfl (show _ = 1 from rfl)) ?_
  refine D_t 1 rfl (fun W hW => r_loadb rfl rfl (by exact hW) (by first | assumption | (conv => lhs; simp only [List.getElem?_toArray, List.getElem?_cons_succ, List.getElem?_cons_zero]))) ?_
  refine D_t 5 rfl (fun W hW => r_fieldb Tryz.underlying43 rfl (show _ = some 1 from rfl) rfl rfl (show _ = 2 from rfl)) ?_
  refine D_t 6 rfl (fun W hW => r_loadb rfl rfl (by exact hW) (by first | assumption | (conv => lhs; simp only [List.getElem?_toArray, List.getElem?_cons_succ, List.getElem?_cons_zero]))) ?_
  refine D_ev 2 (by kernel_rfl) rfl ?_
  refine L_call (.plain rfl) rfl rfl (r_call Tryz.func43 rfl rfl rfl (by rfl)) (join_use x.vp x.m.params _ _ Sl.au hl hj) ?_
  rintro v5 w3 ⟨rfl, c3⟩
  have hz3 := c3.size
  refine L_nil ?_
  refine heldK Bk.au (fun hS => ?_)
  refine D_t 3 rfl (fun W hW => r_adds rfl rfl (by first | omega | (simp only [ByteArray.size_append]; omega))) ?_
  refine D_t 4 rfl (fun W hW => r_adds rfl rfl (by first | omega | (simp only [ByteArray.size_append]; omega))) ?_
  refine D_t 7 rfl (fun W hW => r_adds rfl rfl (by first | omega | (simp only [ByteArray.size_append]; omega))) ?_
  refine D_t 8 rfl (fun W hW => r_as rfl) ?_
  refine D_done (by kernel_rfl) (W_ret ?_)
  refine ret1 (v := .string _) rfl rfl ?_
  exact ⟨rfl, Ch.au⟩
theorem csmall_walk (base : Nat) (b : Nat) (v : Value) (l : List UInt8) (st : St) (w0 : World) (hR : RdAt base w0 b v l st.1 st.2) (hb : base ≤ w0.heap.size) : Does Tryz.prog 94 #[.pointer (some ⟨b, 0, none⟩)] w0 (fun r w' => r = .int .i64 (sm l st) ∧ RdAt base w' b v l (ns l st).1 (ns l st).2 ∧ Ch (fun j => j = b) w0 w') := by
  refine fn_of (n := 7) (args := [.pointer (some ⟨b, 0, none⟩)]) Tryz.func94 rfl rfl rfl (W_seq (W_region (L_r (r_ai rfl) (L_nil (W_seq (W_region (L_r (r_mp rfl) ?_)))))))
  refine L_call (.plain rfl) rfl rfl (r_call Tryz.func145 rfl rfl rfl (by rfl)) (rd_num base b v l st _ hR hb) ?_
  rintro v4 w1 ⟨rfl, hR1, c1⟩
  have hz1 := c1.size
  refine L_r (r_min rfl rfl) ?_
  refine L_r (r_conv Tryz.underlying80 Tryz.underlying3 rfl (by first | exact wr_i64 (by omega) | rfl)) (L_r (r_ai rfl) (L_nil (W_ret ?_)))
  refine ret1 (v := .int _ _) rfl rfl ?_
  refine ⟨congrArg (Value.int .i64) ?_, hR1, Ch.au⟩
  unfold sm
  split <;> omega
end Go.Proofs.YthpknpfhpkkheaaGreatDoor

namespace Go.Proofs.YthpknpfhpkkheaaGreatDoor
open Go Go.RowKit
set_option linter.unusedVariables false
set_option linter.unusedSimpArgs false
set_option maxRecDepth 100000
theorem flat_leL {X : Type} (f : X → List UInt8) (k : Nat) : ∀ (z : List X), (∀ x ∈ z, (f x).length ≤ k) → (z.flatMap f).length ≤ k * z.length
  | [], _ => by simp
  | x :: z, h => by
    have ih := flat_leL f k z fun y hy => h y (List.mem_cons_of_mem _ hy)
    have hx := h x List.mem_cons_self
    rw [List.flatMap_cons, List.length_append, List.length_cons, Nat.mul_add]; omega
theorem textL_leK {s : ByteArray} {k : Nat} (h : s.size ≤ k) (hk : k ≤ 1000000) : (textL s).length ≤ 10 + k := by
  unfold textL
  have := varL_ten (v := s.size) (by omega)
  rw [List.length_append, bs_length]; omega
theorem right_le38 {s : ByteArray} (h : rightK s) : s.size ≤ 38 := by
  have h1 := base_len _ (bs s) rfl
  rw [bs_length] at h1
  have h2 : (baseF (bs s)).2 ≤ 3 := h.1
  have h3 : (baseF (bs s)).1.length ≤ 32 := by
    have e : (baseF (bs s)).1 = bs (baseS s) := by unfold baseS; rw [bs_sb]
    rw [e, bs_length]
    rcases h.2 with h | h
    · rcases h with h | h | h <;> rw [h] <;> decide
    · exact h.1.2.1
  omega
theorem parts_le {s : ByteArray} (h : (partsO s).isSome = true) : s.size ≤ 65 := by
  unfold partsO at h
  split at h
  ·
   rename_i hc
   obtain ⟨h1, h2, h3⟩ := hc
   by_cases h0 : 0 ≤ Lib.indexByte (bs s) 46
   ·
    obtain ⟨o, ho⟩ : ∃ o : Nat, Lib.indexByte (bs s) 46 = o := ⟨(Lib.indexByte (bs s) 46).toNat, by omega⟩
    obtain ⟨k1, k2⟩ := cut_hit ho
    rw [k2] at h2 h3
    have a1 := h2.1.2.1
    have a2 := h3.1.2.1
    rw [sb_size, List.length_take, bs_length] at a1
    rw [sb_size, List.length_drop, bs_length] at a2
    omega
   · rw [cut_mis h0] at h1; exact absurd h1 Bool.false_ne_true
  · exact absurd h (by decide)
theorem text_le70 {n s : ByteArray} (h : textP n s) : s.size ≤ 70 := by
  unfold textP at h
  split at h
  · have := h.1; omega
  ·
   split at h
   · have := h.1.2.1; omega
   ·
    split at h
    · have := right_le38 h.1; omega
    ·
     split at h
     · have := right_le38 h.1; omega
     · have := parts_le h; omega
theorem ins_le70 {x : Ins} (h : checkI x = 0) : x.s.size ≤ 70 := by
  unfold checkI checkT at h
  split at h
  · exact absurd h (by decide)
  ·
   split at h
   · exact absurd h (by decide)
   ·
    rename_i h1 h2
    cases ht : (takesF x.op).2.1 with
    | false =>
      have : x.s = { data := #[] } := Classical.byContradiction fun k => h2 (.inr (.inl ⟨ht, k⟩))
      rw [this]; decide
    | true => exact text_le70 (Classical.byContradiction fun k => h2 (.inr (.inr ⟨ht, k⟩)))
/-- The numbers of a class's instructions are a machine's. -/
def insN (c : Cls) : Prop := ∀ m ∈ c.ms, ∀ x ∈ m.code, -9223372036854775808 ≤ x.n ∧ x.n ≤ 9223372036854775807
theorem mth_ins {m : Mth} (hp : mthP m) : ∀ x ∈ m.code, x.s.size ≤ 70 := by
  have hb := hp.2.2.2
  unfold bodyP at hb
  intro x hx
  split at hb
  · rw [hb.2.1] at hx; simp at hx
  · exact ins_le70 (all_ok hb.2.2.1 x hx)
theorem good_of {c : Cls} (hp : clsP c) (hf : ¬ manyP c) (hn : insN c) : goodC c :=
  ⟨hp, hf, fun m hm x hx => ⟨hn m hm x hx, by have := mth_ins (hp.ms m hm) x hx; omega⟩⟩
theorem insB_le {x : Ins} (hn : -9223372036854775808 ≤ x.n ∧ x.n ≤ 9223372036854775807) (hs : x.s.size ≤ 70) : (insB x).length ≤ 100 := by
  unfold insB
  cases hk : opIx x.op with
  | none => exact Nat.zero_le _
  | some k =>
    have hk2 := opIx_lt hk
    show (insT k _ x).length ≤ _
    generalize opT.getD k default = o
    have h1 : (varL k).length ≤ 10 := varL_ten (by omega)
    have h2 : (varL (zigI x.n).toNat).length ≤ 10 := varL_ten (zig_le hn)
    have h3 := textL_leK hs (by omega)
    unfold insT
    rw [List.length_append, List.length_append]
    have e1 : (if o.2.1 then varL (zigI x.n).toNat else []).length ≤ 10 := by split; exact h2; exact Nat.zero_le _
    have e2 : (if o.2.2 then textL x.s else []).length ≤ 80 := by split; exact h3; exact Nat.zero_le _
    omega
theorem mthB_le {m : Mth} (hp : mthP m) (hf : ¬ manyM m) (hn : ∀ x ∈ m.code, -9223372036854775808 ≤ x.n ∧ x.n ≤ 9223372036854775807) : (mthB m).length ≤ 25000 := by
  have hi := mth_ins hp
  obtain ⟨p1, p2, p3, p4⟩ := hp
  unfold manyM at hf
  have t1 := textL_leK p1.1.2.1 (by omega)
  have t2 := flat_leL textL 48 m.params fun x hx => textL_leK (right_le38 (p2 x hx)) (by omega)
  have t3 : (textL m.result).length ≤ 10 + 38 := textL_leK (by rcases p3 with h | h; (rw [h]; exact Nat.zero_le _); exact right_le38 h) (by omega)
  have t4 := flagL_len' m.abs
  have v1 : (varL m.params.length).length ≤ 10 := varL_ten (by omega)
  have v2 : (varL m.locals.toNat).length ≤ 10 := varL_ten (by omega)
  have v3 : (varL m.code.length).length ≤ 10 := varL_ten (by omega)
  have v4 : (varL m.cats.length).length ≤ 10 := varL_ten (by omega)
  have t5 := flat_leL insB 100 m.code fun x hx => insB_le (hn x hx) (hi x hx)
  have t6 : (bodyB m).length ≤ 22404 := by
    unfold bodyB
    unfold bodyP at p4
    split
    · exact Nat.zero_le _
    ·
     rename_i ha
     rw [if_neg ha] at p4
     have t7 := flat_leL catB 72 m.cats fun x hx => by
       obtain ⟨q1, q2, q3, q4, q5, q6⟩ := p4.2.2.2 x hx
       have a1 : (varL x.fr.toNat).length ≤ 10 := varL_ten (by omega)
       have a2 : (varL x.tt.toNat).length ≤ 10 := varL_ten (by omega)
       have a3 : (varL x.aa.toNat).length ≤ 10 := varL_ten (by omega)
       have a4 := textL_leK q6.1.2.1 (by omega)
       unfold catB
       simp only [List.length_append]
       omega
     unfold putL
     simp only [List.length_append]
     omega
  unfold mthB txtsL
  simp only [List.length_append]
  omega
theorem clsB_le {c : Cls} (hp : clsP c) (hf : ¬ manyP c) (hn : insN c) : (clsB c).length ≤ 900000 := by
  have f1 : c.like.length ≤ 32 := by have : ¬ 32 < c.like.length := fun k => hf (.inr (.inl k)); omega
  have f2 : c.fields.length ≤ 32 := by have : ¬ 32 < c.fields.length := fun k => hf (.inr (.inr (.inl k))); omega
  have f3 : c.ms.length ≤ 32 := by have : ¬ 32 < c.ms.length := fun k => hf (.inr (.inr (.inr k))); omega
  have f4 : ∀ m ∈ c.ms, ¬ manyM m := fun m hm k => hf (.inl ⟨m, hm, k⟩)
  have t1 := textL_leK hp.name.1.2.1 (by omega)
  have t2 := textL_leK hp.super.1.2.1 (by omega)
  have t3 := flat_leL textL 42 c.like fun x hx => textL_leK (hp.like x hx).1.1.2.1 (by omega)
  have t4 := flagL_len' c.ifc
  have t5 := flagL_len' c.abs
  have t6 := flagL_len' c.fin
  have t7 := flat_leL fldB 91 c.fields fun x hx => by
    have a1 := textL_leK (hp.fields x hx).1.1.2.1 (by omega)
    have a2 := textL_leK (right_le38 (hp.fields x hx).2) (by omega)
    have a3 := flagL_len' x.tr
    unfold fldB
    simp only [List.length_append]
    omega
  have t8 := flat_leL mthB 25000 c.ms fun x hx => mthB_le (hp.ms x hx) (f4 x hx) (hn x hx)
  have v1 : (varL c.like.length).length ≤ 10 := varL_ten (by omega)
  have v2 : (varL c.fields.length).length ≤ 10 := varL_ten (by omega)
  have v3 : (varL c.ms.length).length ≤ 10 := varL_ten (by omega)
  unfold clsB txtsL
  simp only [List.length_append]
  omega
theorem check_0 {c : Cls} (h : checkCls c = 0) : clsP c ∧ ¬ manyP c := by
  rcases check_walk_aux c with ⟨e, k⟩ | ⟨e, k, k2⟩ | ⟨e, k, k2⟩
  · omega
  · exact ⟨k2, k⟩
  · omega
theorem cput_walk (g : Nat) (c : CC) (w0 : World) (hG : Gv g w0) (hb : g ≤ w0.heap.size) (hc : c.ok w0) (hs : c.p.sz) (hn : insN c.p) : Does Tryz.prog 15 #[c.v] w0 (fun r w' => ∃ v', r = .tuple #[v', .int .i64 (checkCls c.p)] ∧ (checkCls c.p ≠ 0 → v' = .slice none 0 0) ∧ (checkCls c.p = 0 → Ow w' w0.heap.size 5 1 v' (clsB c.p).length ((clsB c.p).map b8)) ∧ Nw w0 w') := by
  have h1c := hc.one
  refine fn_of (n := 17) (args := [c.v]) Tryz.func15 rfl rfl rfl (W_seq (W_region ?_))
  refine L_new (.plain rfl) rfl rfl (r_boxa rfl) (fun w1 b1 hb1 eb1 hs1 c1 => (L_r (r_av) (L_r (r_ai rfl) (L_nil (W_seq (W_seq (W_region ?_)))))))
  refine L_r (r_loadrow Tryz.underlying26 rfl rfl Bk.au (by first | rfl | assumption)) ?_
  refine L_call (.plain rfl) rfl rfl (r_call Tryz.func13 rfl rfl rfl (by rfl)) (ccheck_walk g c _ (hG.nw Ch.au hb) (by omega) (hc.nw Ch.au) hs) ?_
  rintro v7 w2 ⟨rfl, c2⟩
  have hz2 := c2.size
  refine L_r (r_ai rfl) (L_nil (W_seq (W_region (L_r (r_mi rfl) (L_r (r_neq rfl rfl) (L_nil ?_))))))
  refine W_if rfl (fun h9 => ?_) (fun h9 => ?_)
  ·
   refine W_seq (W_region (L_r (r_mi rfl) (L_r (r_av) (L_r (r_ai rfl) (L_nil (W_ret ?_))))))
   refine ret2 (v := .int _ _) rfl (by conv => lhs; whnf) rfl ?_
   first
   | exact ⟨_, rfl, fun _ => rfl, fun h => absurd h (by omega), Ch.au⟩
   | (have e0 : checkCls c.p = 0 := by omega
      rw [e0]
      exact ⟨_, rfl, fun h => absurd rfl h, fun _ => hvb.mono (by omega), Ch.au⟩)
  ·
   obtain ⟨hp, hf⟩ := check_0 (by omega : checkCls c.p = 0)
   have hbl := clsB_le hp hf hn
   have hgc := good_of hp hf hn
   refine W_skip (W_seq (W_region ?_))
   refine L_call (.plain rfl) rfl rfl (r_call Tryz.func30 rfl rfl rfl (by rfl)) (write_walk _) ?_
   rintro v11 w3 ⟨bw, rfl, hW0, c3⟩
   have hz3 := c3.size
   refine L_r (r_ap rfl) (L_nil (W_seq (W_region (L_r (r_mp rfl) ?_))))
   refine L_r (r_loadrow Tryz.underlying26 rfl rfl Bk.au (by first | rfl | assumption)) ?_
   refine L_call (.plain rfl) rfl rfl (r_call Tryz.func31 rfl rfl rfl (by rfl)) (write_cls_walk g w0.heap.size bw [] c w0 _ ⟨WrAt.down (hW0.nw Ch.au) (by omega), hG.nw Ch.au hb, Ch.refl _, Ch.au, hb, by omega, Nat.le_refl _⟩ hc hgc (by show 0 + _ ≤ _; omega)) ?_
   rintro v14 w4 ⟨rfl, hW1, c4⟩
   have hz4 := c4.size
   have hW1' : WrAt w0.heap.size w4 bw (clsB c.p) := by { have h := hW1; simpa using h }
   refine L_nil (W_seq (W_region (L_r (r_mp rfl) ?_)))
   refine L_call (.plain rfl) rfl rfl (r_call Tryz.func32 rfl rfl rfl (by rfl)) (bytes_walk w0.heap.size bw (clsB c.p) _ (hW1'.nw Ch.au) (by omega)) ?_
   rintro v16 w5 ⟨v', rfl, hvb, c5⟩
   have hz5 := c5.size
   refine L_r (r_av) (L_r (r_ai rfl) (L_nil (W_ret ?_)))
   refine ret2 (v := .int _ _) rfl (by conv => lhs; whnf) rfl ?_
   first
   | exact ⟨_, rfl, fun _ => rfl, fun h => absurd h (by omega), Ch.au⟩
   | (have e0 : checkCls c.p = 0 := by omega
      rw [e0]
      exact ⟨_, rfl, fun h => absurd rfl h, fun _ => hvb.mono (by omega), Ch.au⟩)
end Go.Proofs.YthpknpfhpkkheaaGreatDoor

namespace Go.Proofs.YthpknpfhpkkheaaGreatDoor
open Go Go.RowKit
set_option linter.unusedVariables false
set_option linter.unusedSimpArgs false
set_option maxRecDepth 100000
section
variable {P : Program} {w : World} {f : Fr} {dst : Option Tmp} {ty : TypeId} {pos : String} {af : Array Edge} {g : Option (Nat × Bool)}
theorem r_callf {c : Operand} {args : Array Operand} {ts : Array TypeId} {fid : FuncId} {fst cap l : List Value} (hk : Knows P fid) (hc : ev f c = .func (.func fid) fst.toArray cap.toArray) (ha : fst ++ args.toList.map (ev f) ++ cap = l) :
    (execOp (ev f) ⟨dst, .call { callee := .value c, args := args, argTypes := ts }, ty, pos, af, g⟩).run P w = .ok (.enter fid l.toArray) w := by
  obtain ⟨fn, bd, h1, h2, h3⟩ := hk
  exact r_call h1 h2 h3 hc (by simpa using ha)
end
theorem rd_countk (base b : Nat) (v : Value) (l : List UInt8) (st : St) (most : Int) (w0 : World) (hR : RdAt base w0 b v l st.1 st.2) (hm : most ≤ 1000000) (hb : base ≤ w0.heap.size) : Does Tryz.prog 110 #[.pointer (some ⟨b, 0, none⟩), .int .i64 most] w0 (fun r w' => r = .int .i64 (kn most l st : Int) ∧ RdAt base w' b v l (ks most l st).1 (ks most l st).2 ∧ Ch (fun j => j = b) w0 w') := rdcount_walk base b v l st.1 st.2 most w0 hR (by omega) hb
theorem rd_flagk (base b : Nat) (v : Value) (l : List UInt8) (st : St) (w0 : World) (hR : RdAt base w0 b v l st.1 st.2) (hb : base ≤ w0.heap.size) : Does Tryz.prog 89 #[.pointer (some ⟨b, 0, none⟩)] w0 (fun r w' => r = .bool (fg l st) ∧ RdAt base w' b v l (fs l st).1 (fs l st).2 ∧ Ch (fun j => j = b) w0 w') := rdflag_walk base b v l st.1 st.2 w0 hR hb
theorem kn_le (most : Int) (l : List UInt8) (st : St) (h0 : 0 ≤ most) : (kn most l st : Int) ≤ most := by
  by_cases h : (ks most l st).2 = 0
  · exact (ks_ok h).2.2
  ·
   unfold kn
   unfold ks at h
   obtain ⟨a, e⟩ := st
   unfold got nxt at *
   simp only at *
   split
   ·
    rename_i h1
    rw [if_neg (fun k => k h1.1), if_neg (fun k => k h1.2)] at h
    exact absurd rfl h
   · omega
theorem scells_app (a b : List ByteArray) : scells (a ++ b) = scells a ++ scells b := by unfold scells; rw [List.map_append]
theorem rep_snoc {T : Type} {f : List UInt8 → St → T × St} {l : List UInt8} : ∀ {i : Nat} {a : St} {z : List T} {s : St}, rep f l i a = (z, s) → rep f l (i + 1) a = (z ++ [(f l s).1], (f l s).2)
  | 0, a, z, s, h => by
    cases h; rfl
  | i + 1, a, z, s, h => by
    have e : rep f l (i + 1) a = ((f l a).1 :: (rep f l i (f l a).2).1, (rep f l i (f l a).2).2) := rfl
    rw [e] at h
    have ih := rep_snoc (i := i) (a := (f l a).2) (z := (rep f l i (f l a).2).1) (s := (rep f l i (f l a).2).2) rfl
    cases h
    show ((f l a).1 :: (rep f l (i + 1) (f l a).2).1, (rep f l (i + 1) (f l a).2).2) = _
    rw [ih]; rfl
theorem fld_info : (Tryz.prog.info? 52).map (fun i => (i.zero, i.size, i.bytes)) = some (some (.agg #[.string ByteArray.empty, .string ByteArray.empty, .bool false]), 3, 40) := rfl
theorem cat_info : (Tryz.prog.info? 70).map (fun i => (i.zero, i.size, i.bytes)) = some (some (.agg #[.int .i64 0, .int .i64 0, .int .i64 0, .string ByteArray.empty]), 4, 40) := rfl
theorem read_S (base b : Nat) (v : Value) (l : List UInt8) (st : St) (most : Int) (fid : Nat) (fst cap : List Value) (rf : List UInt8 → St → ByteArray × St) (w0 : World) (hR : RdAt base w0 b v l st.1 st.2) (hb : base ≤ w0.heap.size) (h0 : 0 ≤ most) (hm : most ≤ 1000) (hK : Knows Tryz.prog fid) (hcl : ∀ W st', Ch (fun j => j = b) w0 W → RdAt base W b v l st'.1 st'.2 → Does Tryz.prog fid (fst ++ [] ++ cap).toArray W (fun r w' => r = .string (rf l st').1 ∧ RdAt base w' b v l (rf l st').2.1 (rf l st').2.2 ∧ Ch (fun j => j = b) W w')) : Does Tryz.prog 88 #[.pointer (some ⟨b, 0, none⟩), .int .i64 most, .func (.func fid) fst.toArray cap.toArray] w0 (fun r w' => Ow w' w0.heap.size 9 1 r (rList most rf l st).1.length (scells (rList most rf l st).1) ∧ RdAt base w' b v l (rList most rf l st).2.1 (rList most rf l st).2.2 ∧ Ch (fun j => j = b) w0 w') := by
  have hbl := hR.bk.lt
  have hvl : ∀ i, v.ownBlock = some i → i < w0.heap.size := fun i hi => hR.ow.lt hi
  have hkn := kn_le most l st h0
  refine fn_of (n := 20) (args := [.pointer (some ⟨b, 0, none⟩), .int .i64 most, .func (.func fid) fst.toArray cap.toArray]) Tryz.func88 rfl rfl rfl (W_seq (W_region (L_r (r_av) (L_nil (W_seq (W_region (L_r (r_av) (L_nil ?_))))))))
  refine W_seq (W_seq (W_region (L_r (r_mp rfl) (L_r (r_mi rfl) ?_))))
  refine L_call (.plain rfl) rfl rfl (r_call Tryz.func110 rfl rfl rfl (by rfl)) (rd_countk base b v l st most _ hR (by omega) hb) ?_
  rintro v10 w1 ⟨rfl, hR1, c1⟩
  have hz1 := c1.size
  refine L_r (r_mi rfl) (L_nil (W_block ?_))
  refine W_loopF [2, 10] (fun mz_ f W => ∃ (i : Nat) (z : List ByteArray) (s : St) (vo : Value), f 11 = .int .i64 i ∧ f 7 = vo ∧ (i ≤ kn most l st ∧ rep rf l i (ks most l st) = (z, s) ∧ z.length = i ∧ RdAt base W b v l s.1 s.2 ∧ Ow W w0.heap.size 9 1 vo z.length (scells z) ∧ Ch (fun j => j = b) w0 W) ∧ mz_ = kn most l st - i) ?_ ?_
  ·
   refine ⟨_, 0, [], ks most l st, .slice none 0 0, rfl, rfl, ?_, rfl⟩
   exact ⟨by omega, rfl, rfl, hR1, Ow.nil _ _ _ _, Ch.au⟩
  rintro m0 g0 w2 ⟨i, z, s, vo, hf11, hf7, hR0, rfl⟩
  refine W_as 11 hf11 rfl ?_
  refine W_as 7 hf7 rfl ?_
  clear hf11 hf7
  obtain ⟨hi, hrep, hzl, hRi, hO, hch⟩ := hR0
  have hz := hch.size
  refine W_seq (W_region (L_r (r_lss rfl rfl) (L_nil (W_seq ?_))))
  refine W_if rfl (fun h12 => ?_) (fun h12 => ?_)
  ·
   refine W_skip (W_seq (W_block (W_region (L_r (r_mv) (L_r (r_mv) ?_)))))
   refine L_call (.plain rfl) rfl rfl (r_callf hK rfl (by rfl)) (hcl _ s Ch.au (hRi.nw Ch.au)) ?_
   rintro v15 w3 ⟨rfl, hR9, c3⟩
   have hz3 := c3.size
   refine L_build1 [.string _] Tryz.underlying22 rfl rfl rfl (.plain rfl) rfl (by rfl) (by rfl) (by rfl) (fun b16 w4 hb16 hv16 eb4 hs4 c4 => ?_)
   have hO9 : Ow w4 w0.heap.size 9 1 vo z.length (scells z) := Ow.au
   refine L_apow Tryz.underlying22 str_info rfl (by decide) (.plain rfl) rfl (by conv => lhs; whnf) (by conv => lhs; whnf) hO9 Sl.au (by intro y hy; simp at hy; subst hy; rfl) (by unfold maxLen; omega) (by omega) (by omega) (fun v17 w5 ho17 c17 hob17 => ?_)
   have hz5 := c17.size
   refine L_r (r_av) (L_nil (W_region ?_))
   refine L_r (r_add rfl rfl (by first | exact wr_i64 (by omega) | rfl)) (L_r (r_mi rfl) (L_nil ?_))
   refine ⟨⟨fx2, fx2, trivial⟩, _, ?_, i + 1, z ++ [(rf l s).1], (rf l s).2, v17, rfl, rfl, ?_, rfl⟩
   · omega
   refine ⟨by omega, rep_snoc hrep, by simp [hzl], ?_, ?_, Ch.au⟩
   · exact (hR9.nw Ch.au).chg c17 (fun e => by have := ow_base hO9 e; omega) (fun j hj e => by have := hvl j hj; have := ow_base hO9 e; omega)
   ·
    rw [List.length_append, scells_app]
    exact ho17
  ·
   refine W_exit ?_
   repeat (first | refine blk_hit ?_ | refine blk_miss rfl ?_)
   refine W_seq (W_region (L_r (r_mv) (L_r (r_av) (L_nil (W_ret ?_)))))
   refine ret1 rfl (by conv => lhs; whnf) ?_
   have e : rList most rf l st = (z, s) := by unfold rList; rw [← hrep, show kn most l st = i by omega]
   rw [e]
   exact ⟨Ow.au, hRi.nw Ch.au, Ch.au⟩
theorem read_F (base b : Nat) (v : Value) (l : List UInt8) (st : St) (most : Int) (fid : Nat) (fst cap : List Value) (rf : List UInt8 → St → CF × St) (w0 : World) (hR : RdAt base w0 b v l st.1 st.2) (hb : base ≤ w0.heap.size) (h0 : 0 ≤ most) (hm : most ≤ 1000) (hK : Knows Tryz.prog fid) (hcl : ∀ W st', Ch (fun j => j = b) w0 W → RdAt base W b v l st'.1 st'.2 → Does Tryz.prog fid (fst ++ [] ++ cap).toArray W (fun r w' => r = ((rf l st').1).v ∧ RdAt base w' b v l (rf l st').2.1 (rf l st').2.2 ∧ Ch (fun j => j = b) W w')) : Does Tryz.prog 90 #[.pointer (some ⟨b, 0, none⟩), .int .i64 most, .func (.func fid) fst.toArray cap.toArray] w0 (fun r w' => Ow w' w0.heap.size 52 3 r (rList most rf l st).1.length (cellsCF (rList most rf l st).1) ∧ RdAt base w' b v l (rList most rf l st).2.1 (rList most rf l st).2.2 ∧ Ch (fun j => j = b) w0 w') := by
  have hbl := hR.bk.lt
  have hvl : ∀ i, v.ownBlock = some i → i < w0.heap.size := fun i hi => hR.ow.lt hi
  have hkn := kn_le most l st h0
  refine fn_of (n := 20) (args := [.pointer (some ⟨b, 0, none⟩), .int .i64 most, .func (.func fid) fst.toArray cap.toArray]) Tryz.func90 rfl rfl rfl (W_seq (W_region (L_r (r_av) (L_nil (W_seq (W_region (L_r (r_av) (L_nil ?_))))))))
  refine W_seq (W_seq (W_region (L_r (r_mp rfl) (L_r (r_mi rfl) ?_))))
  refine L_call (.plain rfl) rfl rfl (r_call Tryz.func110 rfl rfl rfl (by rfl)) (rd_countk base b v l st most _ hR (by omega) hb) ?_
  rintro v10 w1 ⟨rfl, hR1, c1⟩
  have hz1 := c1.size
  refine L_r (r_mi rfl) (L_nil (W_block ?_))
  refine W_loopF [2, 10] (fun mz_ f W => ∃ (i : Nat) (z : List CF) (s : St) (vo : Value), f 11 = .int .i64 i ∧ f 7 = vo ∧ (i ≤ kn most l st ∧ rep rf l i (ks most l st) = (z, s) ∧ z.length = i ∧ RdAt base W b v l s.1 s.2 ∧ Ow W w0.heap.size 52 3 vo z.length (cellsCF z) ∧ Ch (fun j => j = b) w0 W) ∧ mz_ = kn most l st - i) ?_ ?_
  ·
   refine ⟨_, 0, [], ks most l st, .slice none 0 0, rfl, rfl, ?_, rfl⟩
   exact ⟨by omega, rfl, rfl, hR1, Ow.nil _ _ _ _, Ch.au⟩
  rintro m0 g0 w2 ⟨i, z, s, vo, hf11, hf7, hR0, rfl⟩
  refine W_as 11 hf11 rfl ?_
  refine W_as 7 hf7 rfl ?_
  clear hf11 hf7
  obtain ⟨hi, hrep, hzl, hRi, hO, hch⟩ := hR0
  have hz := hch.size
  refine W_seq (W_region (L_r (r_lss rfl rfl) (L_nil (W_seq ?_))))
  refine W_if rfl (fun h12 => ?_) (fun h12 => ?_)
  ·
   refine W_skip (W_seq (W_block (W_region (L_r (r_mv) (L_r (r_mv) ?_)))))
   refine L_call (.plain rfl) rfl rfl (r_callf hK rfl (by rfl)) (hcl _ s Ch.au (hRi.nw Ch.au)) ?_
   rintro v15 w3 ⟨rfl, hR9, c3⟩
   have hz3 := c3.size
   refine L_buildrow [[_, _, _]] Tryz.underlying23 (show _ = some (some _, 3, _) from rfl) rfl rfl (.plain rfl) rfl (by rfl) (by rfl) rfl (fun b16 w4 hb16 hv16 eb4 hs4 c4 => ?_)
   simp only [List.flatten_cons, List.flatten_nil, List.append_nil, List.cons_append, List.nil_append] at hb16 hv16
   have hO9 : Ow w4 w0.heap.size 52 3 vo z.length (cellsCF z) := Ow.au
   refine L_apow Tryz.underlying23 fld_info rfl (by decide) (.plain rfl) rfl (by conv => lhs; whnf) (by conv => lhs; whnf) hO9 Sl.au (by intro y hy; simp at hy; rcases hy with rfl | rfl | rfl <;> rfl) (by unfold maxLen; omega) (by omega) (by omega) (fun v17 w5 ho17 c17 hob17 => ?_)
   have hz5 := c17.size
   refine L_r (r_av) (L_nil (W_region ?_))
   refine L_r (r_add rfl rfl (by first | exact wr_i64 (by omega) | rfl)) (L_r (r_mi rfl) (L_nil ?_))
   refine ⟨⟨fx2, fx2, trivial⟩, _, ?_, i + 1, z ++ [(rf l s).1], (rf l s).2, v17, rfl, rfl, ?_, rfl⟩
   · omega
   refine ⟨by omega, rep_snoc hrep, by simp [hzl], ?_, ?_, Ch.au⟩
   · exact (hR9.nw Ch.au).chg c17 (fun e => by have := ow_base hO9 e; omega) (fun j hj e => by have := hvl j hj; have := ow_base hO9 e; omega)
   ·
    rw [List.length_append, cellsCF_append]
    exact ho17
  ·
   refine W_exit ?_
   repeat (first | refine blk_hit ?_ | refine blk_miss rfl ?_)
   refine W_seq (W_region (L_r (r_mv) (L_r (r_av) (L_nil (W_ret ?_)))))
   refine ret1 rfl (by conv => lhs; whnf) ?_
   have e : rList most rf l st = (z, s) := by unfold rList; rw [← hrep, show kn most l st = i by omega]
   rw [e]
   exact ⟨Ow.au, hRi.nw Ch.au, Ch.au⟩
theorem read_K (base b : Nat) (v : Value) (l : List UInt8) (st : St) (most : Int) (fid : Nat) (fst cap : List Value) (rf : List UInt8 → St → Cat × St) (w0 : World) (hR : RdAt base w0 b v l st.1 st.2) (hb : base ≤ w0.heap.size) (h0 : 0 ≤ most) (hm : most ≤ 1000) (hK : Knows Tryz.prog fid) (hcl : ∀ W st', Ch (fun j => j = b) w0 W → RdAt base W b v l st'.1 st'.2 → Does Tryz.prog fid (fst ++ [] ++ cap).toArray W (fun r w' => r = ((rf l st').1).v ∧ RdAt base w' b v l (rf l st').2.1 (rf l st').2.2 ∧ Ch (fun j => j = b) W w')) : Does Tryz.prog 96 #[.pointer (some ⟨b, 0, none⟩), .int .i64 most, .func (.func fid) fst.toArray cap.toArray] w0 (fun r w' => Ow w' w0.heap.size 70 4 r (rList most rf l st).1.length (cellsCK (rList most rf l st).1) ∧ RdAt base w' b v l (rList most rf l st).2.1 (rList most rf l st).2.2 ∧ Ch (fun j => j = b) w0 w') := by
  have hbl := hR.bk.lt
  have hvl : ∀ i, v.ownBlock = some i → i < w0.heap.size := fun i hi => hR.ow.lt hi
  have hkn := kn_le most l st h0
  refine fn_of (n := 20) (args := [.pointer (some ⟨b, 0, none⟩), .int .i64 most, .func (.func fid) fst.toArray cap.toArray]) Tryz.func96 rfl rfl rfl (W_seq (W_region (L_r (r_av) (L_nil (W_seq (W_region (L_r (r_av) (L_nil ?_))))))))
  refine W_seq (W_seq (W_region (L_r (r_mp rfl) (L_r (r_mi rfl) ?_))))
  refine L_call (.plain rfl) rfl rfl (r_call Tryz.func110 rfl rfl rfl (by rfl)) (rd_countk base b v l st most _ hR (by omega) hb) ?_
  rintro v10 w1 ⟨rfl, hR1, c1⟩
  have hz1 := c1.size
  refine L_r (r_mi rfl) (L_nil (W_block ?_))
  refine W_loopF [2, 10] (fun mz_ f W => ∃ (i : Nat) (z : List Cat) (s : St) (vo : Value), f 11 = .int .i64 i ∧ f 7 = vo ∧ (i ≤ kn most l st ∧ rep rf l i (ks most l st) = (z, s) ∧ z.length = i ∧ RdAt base W b v l s.1 s.2 ∧ Ow W w0.heap.size 70 4 vo z.length (cellsCK z) ∧ Ch (fun j => j = b) w0 W) ∧ mz_ = kn most l st - i) ?_ ?_
  ·
   refine ⟨_, 0, [], ks most l st, .slice none 0 0, rfl, rfl, ?_, rfl⟩
   exact ⟨by omega, rfl, rfl, hR1, Ow.nil _ _ _ _, Ch.au⟩
  rintro m0 g0 w2 ⟨i, z, s, vo, hf11, hf7, hR0, rfl⟩
  refine W_as 11 hf11 rfl ?_
  refine W_as 7 hf7 rfl ?_
  clear hf11 hf7
  obtain ⟨hi, hrep, hzl, hRi, hO, hch⟩ := hR0
  have hz := hch.size
  refine W_seq (W_region (L_r (r_lss rfl rfl) (L_nil (W_seq ?_))))
  refine W_if rfl (fun h12 => ?_) (fun h12 => ?_)
  ·
   refine W_skip (W_seq (W_block (W_region (L_r (r_mv) (L_r (r_mv) ?_)))))
   refine L_call (.plain rfl) rfl rfl (r_callf hK rfl (by rfl)) (hcl _ s Ch.au (hRi.nw Ch.au)) ?_
   rintro v15 w3 ⟨rfl, hR9, c3⟩
   have hz3 := c3.size
   refine L_buildrow [[_, _, _, _]] Tryz.underlying41 (show _ = some (some _, 4, _) from rfl) rfl rfl (.plain rfl) rfl (by rfl) (by rfl) rfl (fun b16 w4 hb16 hv16 eb4 hs4 c4 => ?_)
   simp only [List.flatten_cons, List.flatten_nil, List.append_nil, List.cons_append, List.nil_append] at hb16 hv16
   have hO9 : Ow w4 w0.heap.size 70 4 vo z.length (cellsCK z) := Ow.au
   refine L_apow Tryz.underlying41 cat_info rfl (by decide) (.plain rfl) rfl (by conv => lhs; whnf) (by conv => lhs; whnf) hO9 Sl.au (by intro y hy; simp at hy; rcases hy with rfl | rfl | rfl | rfl <;> rfl) (by unfold maxLen; omega) (by omega) (by omega) (fun v17 w5 ho17 c17 hob17 => ?_)
   have hz5 := c17.size
   refine L_r (r_av) (L_nil (W_region ?_))
   refine L_r (r_add rfl rfl (by first | exact wr_i64 (by omega) | rfl)) (L_r (r_mi rfl) (L_nil ?_))
   refine ⟨⟨fx2, fx2, trivial⟩, _, ?_, i + 1, z ++ [(rf l s).1], (rf l s).2, v17, rfl, rfl, ?_, rfl⟩
   · omega
   refine ⟨by omega, rep_snoc hrep, by simp [hzl], ?_, ?_, Ch.au⟩
   · exact (hR9.nw Ch.au).chg c17 (fun e => by have := ow_base hO9 e; omega) (fun j hj e => by have := hvl j hj; have := ow_base hO9 e; omega)
   ·
    rw [List.length_append, cellsCK_append]
    exact ho17
  ·
   refine W_exit ?_
   repeat (first | refine blk_hit ?_ | refine blk_miss rfl ?_)
   refine W_seq (W_region (L_r (r_mv) (L_r (r_av) (L_nil (W_ret ?_)))))
   refine ret1 rfl (by conv => lhs; whnf) ?_
   have e : rList most rf l st = (z, s) := by unfold rList; rw [← hrep, show kn most l st = i by omega]
   rw [e]
   exact ⟨Ow.au, hRi.nw Ch.au, Ch.au⟩
end Go.Proofs.YthpknpfhpkkheaaGreatDoor

namespace Go.Proofs.YthpknpfhpkkheaaGreatDoor
open Go Go.RowKit
set_option linter.unusedVariables false
set_option linter.unusedSimpArgs false
set_option maxRecDepth 100000
set_option maxHeartbeats 1000000 in
theorem tkk_walk (base b p q : Nat) (v : Value) (l : List UInt8) (st : St) (w0 : World) (hR : RdAt base w0 b v l st.1 st.2) (hT : Tabs base w0) (hb : base ≤ w0.heap.size) (hp : Bk w0 p #[.pointer (some ⟨b, 0, none⟩)] 59) (hq : Bk w0 q #[.func (.func 87) #[.pointer (some ⟨b, 0, none⟩)] #[]] 107) : Does Tryz.prog 97 #[.pointer (some ⟨p, 0, none⟩), .pointer (some ⟨q, 0, none⟩)] w0 (fun r w' => r = (rCat l st).1.v ∧ RdAt base w' b v l (rCat l st).2.1 (rCat l st).2.2 ∧ Ch (fun j => j = b) w0 w') := by
  have hbl := hR.bk.lt
  have hpl := hp.lt
  have hql := hq.lt
  have hvl : ∀ i, v.ownBlock = some i → i < w0.heap.size := fun i hi => hR.ow.lt hi
  have hn1 : b ≠ p := Bk.ne hR.bk hp (by decide)
  have hn2 : b ≠ q := Bk.ne hR.bk hq (by decide)
  have hTc := fun W (c : Ch (fun j => j = b) w0 W) => hT.ch c hb (fun i (hi : i = b) => by rw [hi]; exact hR.hb)
  refine fn_of (n := 12) (args := [.pointer (some ⟨p, 0, none⟩), .pointer (some ⟨q, 0, none⟩)]) Tryz.func97 rfl rfl rfl (W_seq (W_region ?_))
  refine L_new (.plain rfl) rfl rfl (r_alloca rfl) (fun w1 b2 hb2 eb1 hs1 c1 => (L_nil (W_seq ?_)))
  refine W_draw (fun W => Bk W p #[.pointer (some ⟨b, 0, none⟩)] 59 ∧ Bk W q #[.func (.func 87) #[.pointer (some ⟨b, 0, none⟩)] #[]] 107) 9 (m := 10) (by kernel_rfl) rfl (fun w2 c2 hs2 => ?_)
  refine held (by exact ⟨Bk.au, Bk.au⟩) (fun hS => ?_)
  refine D_t 0 rfl (fun W hW => r_loadb rfl rfl (by first | exact hW.1 | exact hW.2) (by first | assumption | (conv => lhs; simp only [List.getElem?_toArray, List.getElem?_cons_succ, List.getElem?_cons_zero]))) ?_
  refine D_t 2 rfl (fun W hW => r_loadb rfl rfl (by first | exact hW.1 | exact hW.2) (by first | assumption | (conv => lhs; simp only [List.getElem?_toArray, List.getElem?_cons_succ, List.getElem?_cons_zero]))) ?_
  refine D_t 4 rfl (fun W hW => r_loadb rfl rfl (by first | exact hW.1 | exact hW.2) (by first | assumption | (conv => lhs; simp only [List.getElem?_toArray, List.getElem?_cons_succ, List.getElem?_cons_zero]))) ?_
  refine D_t 6 rfl (fun W hW => r_loadb rfl rfl (by first | exact hW.1 | exact hW.2) (by first | assumption | (conv => lhs; simp only [List.getElem?_toArray, List.getElem?_cons_succ, List.getElem?_cons_zero]))) ?_
  refine D_ev 1 (by kernel_rfl) rfl ?_
  refine L_call (.plain rfl) rfl rfl (r_call Tryz.func94 rfl rfl rfl (by rfl)) (csmall_walk base b v l st _ (hR.nw Ch.au) (by omega)) ?_
  rintro v4 w3 ⟨rfl, hR1, c3⟩
  have hz3 := c3.size
  refine L_nil ?_
  refine heldK (by exact ⟨Bk.au, Bk.au⟩) (fun hS => ?_)
  refine D_ev 3 (by kernel_rfl) rfl ?_
  refine L_call (.plain rfl) rfl rfl (r_call Tryz.func94 rfl rfl rfl (by rfl)) (csmall_walk base b v l (ns l st) _ (hR1.nw Ch.au) (by omega)) ?_
  rintro v6 w4 ⟨rfl, hR2, c4⟩
  have hz4 := c4.size
  refine L_nil ?_
  refine heldK (by exact ⟨Bk.au, Bk.au⟩) (fun hS => ?_)
  refine D_ev 5 (by kernel_rfl) rfl ?_
  refine L_call (.plain rfl) rfl rfl (r_call Tryz.func94 rfl rfl rfl (by rfl)) (csmall_walk base b v l (ns l (ns l st)) _ (hR2.nw Ch.au) (by omega)) ?_
  rintro v8 w5 ⟨rfl, hR3, c5⟩
  have hz5 := c5.size
  refine L_nil ?_
  refine heldK (by exact ⟨Bk.au, Bk.au⟩) (fun hS => ?_)
  refine D_ev 7 (by kernel_rfl) rfl ?_
  refine L_call (.plain rfl) rfl rfl (r_call Tryz.func87 rfl rfl rfl (by rfl)) (rd_text base b v l (ns l (ns l (ns l st))) _ (hR3.nw Ch.au) (hTc _ Ch.au) (by omega)) ?_
  rintro v10 w6 ⟨rfl, hR4, c6⟩
  have hz6 := c6.size
  refine L_nil ?_
  refine heldK (by exact ⟨Bk.au, Bk.au⟩) (fun hS => ?_)
  refine D_t 8 rfl (fun W hW => r_build1 (pl := [(0, 1), (1, 1), (2, 1), (3, 1)]) (vs := [(0, .int _ _), (1, .int _ _), (2, .int _ _), (3, .string _)]) (cells := [_, _, _, _]) Tryz.underlying70 rfl rfl (by rfl) rfl (by rfl)) ?_
  refine D_ev 9 (by kernel_rfl) rfl ?_
  refine L_storerow (.plain rfl) rfl rfl Bk.au (by first | rfl | (simp; done) | assumption) (by first | rfl | assumption) (by first | rfl | (simp [Value.oneCell']; done) | assumption) (fun w7 hb7 hs7 c7 => (L_nil ?_))
  refine heldL ?_
  refine D_done (by kernel_rfl) (W_ret ?_)
  refine r_ret_row rfl rfl Tryz.underlying70 rfl Bk.au (by first | rfl | assumption) ?_
  exact ⟨rfl, hR4.chg (X := fun j => j = b2) (by assumption) (by omega) (fun j hj e => by have := hvl j hj; omega), Ch.au⟩
set_option maxHeartbeats 1000000 in
theorem tkf_walk (base b p q : Nat) (v : Value) (l : List UInt8) (st : St) (w0 : World) (hR : RdAt base w0 b v l st.1 st.2) (hT : Tabs base w0) (hb : base ≤ w0.heap.size) (hp : Bk w0 p #[.pointer (some ⟨b, 0, none⟩)] 59) (hq : Bk w0 q #[.func (.func 87) #[.pointer (some ⟨b, 0, none⟩)] #[]] 107) : Does Tryz.prog 91 #[.pointer (some ⟨q, 0, none⟩), .pointer (some ⟨p, 0, none⟩)] w0 (fun r w' => r = (rFld l st).1.v ∧ RdAt base w' b v l (rFld l st).2.1 (rFld l st).2.2 ∧ Ch (fun j => j = b) w0 w') := by
  have hbl := hR.bk.lt
  have hpl := hp.lt
  have hql := hq.lt
  have hvl : ∀ i, v.ownBlock = some i → i < w0.heap.size := fun i hi => hR.ow.lt hi
  have hn1 : b ≠ p := Bk.ne hR.bk hp (by decide)
  have hn2 : b ≠ q := Bk.ne hR.bk hq (by decide)
  have hTc := fun W (c : Ch (fun j => j = b) w0 W) => hT.ch c hb (fun i (hi : i = b) => by rw [hi]; exact hR.hb)
  refine fn_of (n := 10) (args := [.pointer (some ⟨q, 0, none⟩), .pointer (some ⟨p, 0, none⟩)]) Tryz.func91 rfl rfl rfl (W_seq (W_region ?_))
  refine L_new (.plain rfl) rfl rfl (r_alloca rfl) (fun w1 b2 hb2 eb1 hs1 c1 => (L_nil (W_seq ?_)))
  refine W_draw (fun W => Bk W p #[.pointer (some ⟨b, 0, none⟩)] 59 ∧ Bk W q #[.func (.func 87) #[.pointer (some ⟨b, 0, none⟩)] #[]] 107) 7 (m := 8) (by kernel_rfl) rfl (fun w2 c2 hs2 => ?_)
  refine held (by exact ⟨Bk.au, Bk.au⟩) (fun hS => ?_)
  refine D_t 0 rfl (fun W hW => r_loadb rfl rfl (by first | exact hW.1 | exact hW.2) (by first | assumption | (conv => lhs; simp only [List.getElem?_toArray, List.getElem?_cons_succ, List.getElem?_cons_zero]))) ?_
  refine D_t 2 rfl (fun W hW => r_loadb rfl rfl (by first | exact hW.1 | exact hW.2) (by first | assumption | (conv => lhs; simp only [List.getElem?_toArray, List.getElem?_cons_succ, List.getElem?_cons_zero]))) ?_
  refine D_t 4 rfl (fun W hW => r_loadb rfl rfl (by first | exact hW.1 | exact hW.2) (by first | assumption | (conv => lhs; simp only [List.getElem?_toArray, List.getElem?_cons_succ, List.getElem?_cons_zero]))) ?_
  refine D_ev 1 (by kernel_rfl) rfl ?_
  refine L_call (.plain rfl) rfl rfl (r_call Tryz.func87 rfl rfl rfl (by rfl)) (rd_text base b v l st _ (hR.nw Ch.au) (hTc _ Ch.au) (by omega)) ?_
  rintro v4 w3 ⟨rfl, hR1, c3⟩
  have hz3 := c3.size
  refine L_nil ?_
  refine heldK (by exact ⟨Bk.au, Bk.au⟩) (fun hS => ?_)
  refine D_ev 3 (by kernel_rfl) rfl ?_
  refine L_call (.plain rfl) rfl rfl (r_call Tryz.func87 rfl rfl rfl (by rfl)) (rd_text base b v l (ts l st) _ (hR1.nw Ch.au) (hTc _ Ch.au) (by omega)) ?_
  rintro v6 w4 ⟨rfl, hR2, c4⟩
  have hz4 := c4.size
  refine L_nil ?_
  refine heldK (by exact ⟨Bk.au, Bk.au⟩) (fun hS => ?_)
  refine D_ev 5 (by kernel_rfl) rfl ?_
  refine L_call (.plain rfl) rfl rfl (r_call Tryz.func89 rfl rfl rfl (by rfl)) (rd_flagk base b v l (ts l (ts l st)) _ (hR2.nw Ch.au) (by omega)) ?_
  rintro v8 w5 ⟨rfl, hR3, c5⟩
  have hz5 := c5.size
  refine L_nil ?_
  refine heldK (by exact ⟨Bk.au, Bk.au⟩) (fun hS => ?_)
  refine D_t 6 rfl (fun W hW => r_build1 (pl := [(0, 1), (1, 1), (2, 1)]) (vs := [(0, .string _), (1, .string _), (2, .bool _)]) (cells := [_, _, _]) Tryz.underlying52 rfl rfl (by rfl) rfl (by rfl)) ?_
  refine D_ev 7 (by kernel_rfl) rfl ?_
  refine L_storerow (.plain rfl) rfl rfl Bk.au (by first | rfl | (simp; done) | assumption) (by first | rfl | assumption) (by first | rfl | (simp [Value.oneCell']; done) | assumption) (fun w6 hb6 hs6 c6 => (L_nil ?_))
  refine heldL ?_
  refine D_done (by kernel_rfl) (W_ret ?_)
  refine r_ret_row rfl rfl Tryz.underlying52 rfl Bk.au (by first | rfl | assumption) ?_
  exact ⟨rfl, hR3.chg (X := fun j => j = b2) (by assumption) (by omega) (fun j hj e => by have := hvl j hj; omega), Ch.au⟩
end Go.Proofs.YthpknpfhpkkheaaGreatDoor

namespace Go.Proofs.YthpknpfhpkkheaaGreatDoor
open Go Go.RowKit
set_option linter.unusedVariables false
set_option linter.unusedSimpArgs false
set_option maxRecDepth 100000
theorem Ow.gen {w w' : World} {B e sz n : Nat} {v : Value} {xs : List Value} {X : Nat → Prop} (h : Ow w B e sz v n xs) (c : Ch X w w') (hX : ∀ j, v.ownBlock = some j → ¬ X j) : Ow w' B e sz v n xs := h.to fun i hi => Sm.step c (fun _ => hX i hi) (Sm.refl _ _)
/-- A method whose lists are rows of one's own. -/
structure MM.own (B : Nat) (w : World) (x : MM) : Prop where
  p : Ow w B 9 1 x.vp x.m.params.length (scells x.m.params)
  c : Ow w B 54 3 x.vc x.m.code.length (cellsI x.m.code)
  k : Ow w B 70 4 x.vk x.m.cats.length (cellsCK x.m.cats)
section
variable {B B' : Nat} {w w' : World} {x : MM}
theorem MM.own.ok (h : x.own B w) : x.ok w := ⟨h.p.sl, h.c.sl, h.k.sl⟩
theorem MM.own.nw (h : x.own B w) (c : Nw w w') : x.own B w' := ⟨h.p.nw c, h.c.nw c, h.k.nw c⟩
theorem MM.own.mono (h : x.own B w) (hb : B' ≤ B) : x.own B' w := ⟨h.p.mono hb, h.c.mono hb, h.k.mono hb⟩
/-- A block below is changed. -/
theorem MM.own.lo {b : Nat} (h : x.own B w) (c : Ch (fun j => j = b) w w') (hb : b < B) : x.own B w' :=
  ⟨h.p.gen c fun j hj e => by have := ow_base h.p hj; omega, h.c.gen c fun j hj e => by have := ow_base h.c hj; omega, h.k.gen c fun j hj e => by have := ow_base h.k hj; omega⟩
/-- A row of another type is changed. -/
theorem MM.own.ap {B2 e sz n : Nat} {v : Value} {xs : List Value} (h : x.own B w) (hO : Ow w B2 e sz v n xs) (c : Ch (fun j => v.ownBlock = some j) w w') (h1 : 9 ≠ e) (h2 : 54 ≠ e) (h3 : 70 ≠ e) : x.own B w' :=
  ⟨h.p.gen c fun j hj he => ow_apart h.p hO h1 j hj he, h.c.gen c fun j hj he => ow_apart h.c hO h2 j hj he, h.k.gen c fun j hj he => ow_apart h.k hO h3 j hj he⟩
end
theorem mth_info : (Tryz.prog.info? 43).map (fun i => (i.zero, i.size, i.bytes)) = some (some (.agg #[.string ByteArray.empty, .slice none 0 0, .string ByteArray.empty, .bool false, .int .i64 0, .slice none 0 0, .slice none 0 0]), 7, 120) := rfl
theorem read_M (base b : Nat) (v : Value) (l : List UInt8) (st : St) (most : Int) (fid : Nat) (fst cap : List Value) (rf : List UInt8 → St → Mth × St) (w0 : World) (hR : RdAt base w0 b v l st.1 st.2) (hb : base ≤ w0.heap.size) (h0 : 0 ≤ most) (hm : most ≤ 1000) (hK : Knows Tryz.prog fid) (hcl : ∀ W st', Ch (fun j => j = b) w0 W → RdAt base W b v l st'.1 st'.2 → Does Tryz.prog fid (fst ++ [] ++ cap).toArray W (fun r w' => ∃ y : MM, r = y.v ∧ y.m = (rf l st').1 ∧ y.own W.heap.size w' ∧ RdAt base w' b v l (rf l st').2.1 (rf l st').2.2 ∧ Ch (fun j => j = b) W w')) : Does Tryz.prog 92 #[.pointer (some ⟨b, 0, none⟩), .int .i64 most, .func (.func fid) fst.toArray cap.toArray] w0 (fun r w' => ∃ q : List MM, Ow w' w0.heap.size 43 7 r q.length (cellsCM q) ∧ q.map MM.m = (rList most rf l st).1 ∧ (∀ y ∈ q, y.own w0.heap.size w') ∧ RdAt base w' b v l (rList most rf l st).2.1 (rList most rf l st).2.2 ∧ Ch (fun j => j = b) w0 w') := by
  have hbl := hR.bk.lt
  have hvl : ∀ i, v.ownBlock = some i → i < w0.heap.size := fun i hi => hR.ow.lt hi
  have hkn := kn_le most l st h0
  refine fn_of (n := 20) (args := [.pointer (some ⟨b, 0, none⟩), .int .i64 most, .func (.func fid) fst.toArray cap.toArray]) Tryz.func92 rfl rfl rfl (W_seq (W_region (L_r (r_av) (L_nil (W_seq (W_region (L_r (r_av) (L_nil ?_))))))))
  refine W_seq (W_seq (W_region (L_r (r_mp rfl) (L_r (r_mi rfl) ?_))))
  refine L_call (.plain rfl) rfl rfl (r_call Tryz.func110 rfl rfl rfl (by rfl)) (rd_countk base b v l st most _ hR (by omega) hb) ?_
  rintro v10 w1 ⟨rfl, hR1, c1⟩
  have hz1 := c1.size
  refine L_r (r_mi rfl) (L_nil (W_block ?_))
  refine W_loopF [2, 10] (fun mz_ f W => ∃ (i : Nat) (z : List MM) (s : St) (vo : Value), f 11 = .int .i64 i ∧ f 7 = vo ∧ (i ≤ kn most l st ∧ rep rf l i (ks most l st) = (z.map MM.m, s) ∧ z.length = i ∧ RdAt base W b v l s.1 s.2 ∧ Ow W w0.heap.size 43 7 vo z.length (cellsCM z) ∧ (∀ y ∈ z, y.own w0.heap.size W) ∧ Ch (fun j => j = b) w0 W) ∧ mz_ = kn most l st - i) ?_ ?_
  ·
   refine ⟨_, 0, [], ks most l st, .slice none 0 0, rfl, rfl, ?_, rfl⟩
   exact ⟨by omega, rfl, rfl, hR1, Ow.nil _ _ _ _, fun y hy => absurd hy (by simp), Ch.au⟩
  rintro m0 g0 w2 ⟨i, z, s, vo, hf11, hf7, hR0, rfl⟩
  refine W_as 11 hf11 rfl ?_
  refine W_as 7 hf7 rfl ?_
  clear hf11 hf7
  obtain ⟨hi, hrep, hzl, hRi, hO, hzo, hch⟩ := hR0
  have hz := hch.size
  refine W_seq (W_region (L_r (r_lss rfl rfl) (L_nil (W_seq ?_))))
  refine W_if rfl (fun h12 => ?_) (fun h12 => ?_)
  ·
   refine W_skip (W_seq (W_block (W_region (L_r (r_mv) (L_r (r_mv) ?_)))))
   refine L_call (.plain rfl) rfl rfl (r_callf hK rfl (by rfl)) (hcl _ s Ch.au (hRi.nw Ch.au)) ?_
   rintro v15 w3 ⟨y9, rfl, hym, hyo, hR9, c3⟩
   have hz3 := c3.size
   have hzo9 : ∀ y ∈ z, y.own w0.heap.size w3 := fun y hy => ((hzo y hy).nw (Ch.au : Nw _ w2)).lo c3 (by omega)
   have hyo9 := hyo.mono (by omega : w0.heap.size ≤ _)
   have hy1 := hyo9.ok.one
   refine L_buildrow [[_, _, _, _, _, _, _]] Tryz.underlying24 (show _ = some (some _, 7, _) from rfl) rfl rfl (.plain rfl) rfl (by rfl) (by rfl) rfl (fun b16 w4 hb16 hv16 eb4 hs4 c4 => ?_)
   simp only [List.flatten_cons, List.flatten_nil, List.append_nil, List.cons_append, List.nil_append] at hb16 hv16
   have hO9 : Ow w4 w0.heap.size 43 7 vo z.length (cellsCM z) := Ow.au
   have hzv : ∀ y ∈ z, y.own w0.heap.size w4 := fun y hy => (hzo9 y hy).nw Ch.au
   have hyv : y9.own w0.heap.size w4 := hyo9.nw Ch.au
   refine L_apow Tryz.underlying24 mth_info rfl (by decide) (.plain rfl) rfl (by conv => lhs; whnf) (by conv => lhs; whnf) hO9 Sl.au (by simpa [Array.all_eq_true] using hy1) (by unfold maxLen; omega) (by omega) (by omega) (fun v17 w5 ho17 c17 hob17 => ?_)
   have hz5 := c17.size
   refine L_r (r_av) (L_nil (W_region ?_))
   refine L_r (r_add rfl rfl (by first | exact wr_i64 (by omega) | rfl)) (L_r (r_mi rfl) (L_nil ?_))
   refine ⟨⟨fx2, fx2, trivial⟩, _, ?_, i + 1, z ++ [y9], (rf l s).2, v17, rfl, rfl, ?_, rfl⟩
   · omega
   refine ⟨by omega, by rw [List.map_append, List.map_singleton, hym]; exact rep_snoc hrep, by simp [hzl], ?_, ?_, ?_, Ch.au⟩
   · exact (hR9.nw Ch.au).chg c17 (fun e => by have := ow_base hO9 e; omega) (fun j hj e => by have := hvl j hj; have := ow_base hO9 e; omega)
   ·
    rw [List.length_append, cellsCM_append]
    exact ho17
   ·
    intro y hy
    rcases List.mem_append.1 hy with hy | hy
    · exact (hzv y hy).ap hO9 c17 (by decide) (by decide) (by decide)
    ·
     rw [List.mem_singleton] at hy
     subst hy
     exact hyv.ap hO9 c17 (by decide) (by decide) (by decide)
  ·
   refine W_exit ?_
   repeat (first | refine blk_hit ?_ | refine blk_miss rfl ?_)
   refine W_seq (W_region (L_r (r_mv) (L_r (r_av) (L_nil (W_ret ?_)))))
   refine ret1 rfl (by conv => lhs; whnf) ?_
   have e : rList most rf l st = (z.map MM.m, s) := by unfold rList; rw [← hrep, show kn most l st = i by omega]
   rw [e]
   exact ⟨z, Ow.au, rfl, fun y hy => (hzo y hy).nw Ch.au, hRi.nw Ch.au, Ch.au⟩
end Go.Proofs.YthpknpfhpkkheaaGreatDoor
