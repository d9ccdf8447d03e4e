/- Which instructions may be; the first error of many; walked. -/
import Derived.Test.YtioonbfinnigpaaGreatDoorCode3
namespace Go.Proofs.YtioonbfinnigpaaGreatDoor
open Go Go.RowKit
set_option linter.unusedVariables false
set_option linter.unusedSimpArgs false
set_option maxRecDepth 100000
def checkT (t : Bool × Bool × Bool) (x : Ins) : Int :=
  if t.2.2 = false then 40
  else if (t.1 = false ∧ x.n ≠ 0) ∨ (t.2.1 = false ∧ ¬ x.s = { data := #[] }) ∨ (t.2.1 = true ∧ ¬ textP x.op x.s) then 41 else 0
def checkI (x : Ins) : Int := checkT (takesF x.op) x
theorem icheck_walk (base : Nat) (x : Ins) (w0 : World) (hG : Gv base w0) (hb : base ≤ w0.heap.size) (hs : x.s.size ≤ 1000000) : Does Tryz.prog 46 #[x.v] w0 (fun r w' => r = .int .i64 (checkI x) ∧ Nw w0 w') := by
  have htk := fun W (c : Nw w0 W) => takes_walk base x.op W (hG.nw c hb) (Nat.le_trans hb c.size)
  unfold checkI
  generalize takesF x.op = t at htk ⊢
  obtain ⟨ta, tb, tc⟩ := t
  refine fn_of (n := 40) (args := [x.v]) Tryz.func46 rfl rfl rfl ?_
  refine W_seq ?_
  refine W_region ?_
  refine L_new (.plain rfl) rfl rfl (r_boxa rfl) (fun w1 b1 hb1 eb1 hs1 c1 => ?_)
  refine L_r (r_ai rfl) ?_
  refine L_nil ?_
  refine W_seq ?_
  refine W_region ?_
  refine L_r (r_fieldb Tryz.underlying47 rfl (show _ = some 1 from rfl) rfl rfl (show _ = 0 from rfl)) ?_
  refine L_r (r_lb rfl rfl) ?_
  refine L_call (.plain rfl) rfl rfl (r_call Tryz.func44 rfl rfl rfl (by rfl)) (htk _ Ch.au) ?_
  rintro v9 w2 ⟨rfl, c2⟩
  have hz2 := c2.size
  refine L_r (r_mv) ?_
  refine L_r (r_ext3_0 rfl) ?_
  refine L_r (r_ext3_1 rfl) ?_
  refine L_r (r_ext3_2 rfl) ?_
  refine L_r (r_ab rfl) ?_
  refine L_r (r_ab rfl) ?_
  refine L_r (r_ab rfl) ?_
  refine L_nil ?_
  refine W_seq ?_
  refine W_block ?_
  refine W_seq ?_
  refine W_region ?_
  refine L_r (r_mb rfl) ?_
  refine L_r (r_not rfl) ?_
  refine L_r (r_ab rfl) ?_
  refine L_nil ?_
  refine W_bool rfl (fun h13 => ?_) (fun h13 => ?_)
  · refine W_seq ?_
    refine W_region ?_
    refine L_r (r_ai rfl) ?_
    refine L_nil ?_
    refine W_ret ?_
    refine ret1 (v := .int _ _) rfl rfl ?_
    refine ⟨?_, Ch.au⟩
    (try simp only [decide_eq_true_eq, decide_eq_false_iff_not, Bool.not_eq_true', Bool.not_eq_false', ne_eq] at *)
    unfold checkT
    first
    | contradiction
    | (rw [if_pos (by simp_all)]; done)
    | (rw [if_neg (by simp_all), if_pos (by simp_all)]; done)
    | (rw [if_neg (by simp_all), if_neg (by simp_all)]; done)
    | (exfalso; simp_all; done)
  · refine W_seq ?_
    refine W_seq ?_
    refine W_region ?_
    refine L_r (r_mb rfl) ?_
    refine L_r (r_not rfl) ?_
    refine L_r (r_mb rfl) ?_
    refine L_caseb (d := 19) rfl (fun h19 => ?_) (fun h19 => ?_)
    · refine L_g (r_fieldb Tryz.underlying47 rfl (show _ = some 1 from rfl) rfl rfl (show _ = 1 from rfl)) ?_
      refine L_g (r_lb rfl rfl) ?_
      refine L_g (r_neq rfl rfl) ?_
      refine L_r (r_pt rfl rfl) ?_
      refine L_r (r_ab rfl) ?_
      refine L_nil ?_
      refine W_if rfl (fun h16 => ?_) (fun h16 => ?_)
      · refine W_skip ?_
        refine W_if rfl (fun h16 => ?_) (fun h16 => ?_)
        · refine W_seq ?_
          refine W_region ?_
          refine L_r (r_ai rfl) ?_
          refine L_nil ?_
          refine W_ret ?_
          refine ret1 (v := .int _ _) rfl rfl ?_
          refine ⟨?_, Ch.au⟩
          (try simp only [decide_eq_true_eq, decide_eq_false_iff_not, Bool.not_eq_true', Bool.not_eq_false', ne_eq] at *)
          unfold checkT
          first
          | contradiction
          | (rw [if_pos (by simp_all)]; done)
          | (rw [if_neg (by simp_all), if_pos (by simp_all)]; done)
          | (rw [if_neg (by simp_all), if_neg (by simp_all)]; done)
          | (exfalso; simp_all; done)
        · refine W_skip ?_
          refine W_seq ?_
          refine W_region ?_
          refine L_r (r_ai rfl) ?_
          refine L_nil ?_
          refine W_ret ?_
          refine ret1 (v := .int _ _) rfl rfl ?_
          refine ⟨?_, Ch.au⟩
          (try simp only [decide_eq_true_eq, decide_eq_false_iff_not, Bool.not_eq_true', Bool.not_eq_false', ne_eq] at *)
          unfold checkT
          first
          | contradiction
          | (rw [if_pos (by simp_all)]; done)
          | (rw [if_neg (by simp_all), if_pos (by simp_all)]; done)
          | (rw [if_neg (by simp_all), if_neg (by simp_all)]; done)
          | (exfalso; simp_all; done)
      · refine W_seq ?_
        refine W_region ?_
        refine L_r (r_mb rfl) ?_
        refine L_r (r_not rfl) ?_
        refine L_r (r_mb rfl) ?_
        refine L_caseb (d := 26) rfl (fun h26 => ?_) (fun h26 => ?_)
        · refine L_g (r_fieldb Tryz.underlying47 rfl (show _ = some 1 from rfl) rfl rfl (show _ = 2 from rfl)) ?_
          refine L_g (r_lb rfl rfl) ?_
          refine L_g (r_neqs rfl rfl) ?_
          refine L_r (r_pt rfl rfl) ?_
          refine L_r (r_ab rfl) ?_
          refine L_nil ?_
          refine W_if rfl (fun h16 => ?_) (fun h16 => ?_)
          · refine W_skip ?_
            refine W_if rfl (fun h16 => ?_) (fun h16 => ?_)
            · refine W_seq ?_
              refine W_region ?_
              refine L_r (r_ai rfl) ?_
              refine L_nil ?_
              refine W_ret ?_
              refine ret1 (v := .int _ _) rfl rfl ?_
              refine ⟨?_, Ch.au⟩
              (try simp only [decide_eq_true_eq, decide_eq_false_iff_not, Bool.not_eq_true', Bool.not_eq_false', ne_eq] at *)
              unfold checkT
              first
              | contradiction
              | (rw [if_pos (by simp_all)]; done)
              | (rw [if_neg (by simp_all), if_pos (by simp_all)]; done)
              | (rw [if_neg (by simp_all), if_neg (by simp_all)]; done)
              | (exfalso; simp_all; done)
            · refine W_skip ?_
              refine W_seq ?_
              refine W_region ?_
              refine L_r (r_ai rfl) ?_
              refine L_nil ?_
              refine W_ret ?_
              refine ret1 (v := .int _ _) rfl rfl ?_
              refine ⟨?_, Ch.au⟩
              (try simp only [decide_eq_true_eq, decide_eq_false_iff_not, Bool.not_eq_true', Bool.not_eq_false', ne_eq] at *)
              unfold checkT
              first
              | contradiction
              | (rw [if_pos (by simp_all)]; done)
              | (rw [if_neg (by simp_all), if_pos (by simp_all)]; done)
              | (rw [if_neg (by simp_all), if_neg (by simp_all)]; done)
              | (exfalso; simp_all; done)
          · refine W_region ?_
            refine L_r (r_mb rfl) ?_
            refine L_r (r_mb rfl) ?_
            refine L_caseb (d := 32) rfl (fun h32 => ?_) (fun h32 => ?_)
            · refine L_g (r_fieldb Tryz.underlying47 rfl (show _ = some 1 from rfl) rfl rfl (show _ = 0 from rfl)) ?_
              refine L_g (r_lb rfl rfl) ?_
              refine L_g (r_fieldb Tryz.underlying47 rfl (show _ = some 1 from rfl) rfl rfl (show _ = 2 from rfl)) ?_
              refine L_g (r_lb rfl rfl) ?_
              refine L_call (.yes 1 true rfl rfl) rfl rfl (r_call Tryz.func68 rfl rfl rfl (by rfl)) (optext_walk base x.op x.s _ (hG.nw Ch.au hb) (by omega) hs) ?_
              rintro v37 w3 ⟨rfl, c3⟩
              have hz3 := c3.size
              refine L_g (r_not rfl) ?_
              refine L_r (r_pt rfl rfl) ?_
              refine L_r (r_ab rfl) ?_
              refine L_nil ?_
              refine W_bool rfl (fun h16 => ?_) (fun h16 => ?_)
              · refine W_seq ?_
                refine W_region ?_
                refine L_r (r_ai rfl) ?_
                refine L_nil ?_
                refine W_ret ?_
                refine ret1 (v := .int _ _) rfl rfl ?_
                refine ⟨?_, Ch.au⟩
                (try simp only [decide_eq_true_eq, decide_eq_false_iff_not, Bool.not_eq_true', Bool.not_eq_false', ne_eq] at *)
                unfold checkT
                first
                | contradiction
                | (rw [if_pos (by simp_all)]; done)
                | (rw [if_neg (by simp_all), if_pos (by simp_all)]; done)
                | (rw [if_neg (by simp_all), if_neg (by simp_all)]; done)
                | (exfalso; simp_all; done)
              · refine W_skip ?_
                refine W_seq ?_
                refine W_region ?_
                refine L_r (r_ai rfl) ?_
                refine L_nil ?_
                refine W_ret ?_
                refine ret1 (v := .int _ _) rfl rfl ?_
                refine ⟨?_, Ch.au⟩
                (try simp only [decide_eq_true_eq, decide_eq_false_iff_not, Bool.not_eq_true', Bool.not_eq_false', ne_eq] at *)
                unfold checkT
                first
                | contradiction
                | (rw [if_pos (by simp_all)]; done)
                | (rw [if_neg (by simp_all), if_pos (by simp_all)]; done)
                | (rw [if_neg (by simp_all), if_neg (by simp_all)]; done)
                | (exfalso; simp_all; done)
            · refine L_ps ?_
              refine L_ps ?_
              refine L_ps ?_
              refine L_ps ?_
              refine L_ps ?_
              refine L_ps ?_
              refine L_r (r_pf rfl rfl) ?_
              refine L_r (r_ab rfl) ?_
              refine L_nil ?_
              refine W_false rfl ?_
              refine W_skip ?_
              refine W_seq ?_
              refine W_region ?_
              refine L_r (r_ai rfl) ?_
              refine L_nil ?_
              refine W_ret ?_
              refine ret1 (v := .int _ _) rfl rfl ?_
              refine ⟨?_, Ch.au⟩
              (try simp only [decide_eq_true_eq, decide_eq_false_iff_not, Bool.not_eq_true', Bool.not_eq_false', ne_eq] at *)
              unfold checkT
              first
              | contradiction
              | (rw [if_pos (by simp_all)]; done)
              | (rw [if_neg (by simp_all), if_pos (by simp_all)]; done)
              | (rw [if_neg (by simp_all), if_neg (by simp_all)]; done)
              | (exfalso; simp_all; done)
        · refine L_ps ?_
          refine L_ps ?_
          refine L_ps ?_
          refine L_r (r_pf rfl rfl) ?_
          refine L_r (r_ab rfl) ?_
          refine L_nil ?_
          refine W_false rfl ?_
          refine W_region ?_
          refine L_r (r_mb rfl) ?_
          refine L_r (r_mb rfl) ?_
          refine L_caseb (d := 32) rfl (fun h32 => ?_) (fun h32 => ?_)
          · refine L_g (r_fieldb Tryz.underlying47 rfl (show _ = some 1 from rfl) rfl rfl (show _ = 0 from rfl)) ?_
            refine L_g (r_lb rfl rfl) ?_
            refine L_g (r_fieldb Tryz.underlying47 rfl (show _ = some 1 from rfl) rfl rfl (show _ = 2 from rfl)) ?_
            refine L_g (r_lb rfl rfl) ?_
            refine L_call (.yes 1 true rfl rfl) rfl rfl (r_call Tryz.func68 rfl rfl rfl (by rfl)) (optext_walk base x.op x.s _ (hG.nw Ch.au hb) (by omega) hs) ?_
            rintro v37 w4 ⟨rfl, c4⟩
            have hz4 := c4.size
            refine L_g (r_not rfl) ?_
            refine L_r (r_pt rfl rfl) ?_
            refine L_r (r_ab rfl) ?_
            refine L_nil ?_
            refine W_bool rfl (fun h16 => ?_) (fun h16 => ?_)
            · refine W_seq ?_
              refine W_region ?_
              refine L_r (r_ai rfl) ?_
              refine L_nil ?_
              refine W_ret ?_
              refine ret1 (v := .int _ _) rfl rfl ?_
              refine ⟨?_, Ch.au⟩
              (try simp only [decide_eq_true_eq, decide_eq_false_iff_not, Bool.not_eq_true', Bool.not_eq_false', ne_eq] at *)
              unfold checkT
              first
              | contradiction
              | (rw [if_pos (by simp_all)]; done)
              | (rw [if_neg (by simp_all), if_pos (by simp_all)]; done)
              | (rw [if_neg (by simp_all), if_neg (by simp_all)]; done)
              | (exfalso; simp_all; done)
            · refine W_skip ?_
              refine W_seq ?_
              refine W_region ?_
              refine L_r (r_ai rfl) ?_
              refine L_nil ?_
              refine W_ret ?_
              refine ret1 (v := .int _ _) rfl rfl ?_
              refine ⟨?_, Ch.au⟩
              (try simp only [decide_eq_true_eq, decide_eq_false_iff_not, Bool.not_eq_true', Bool.not_eq_false', ne_eq] at *)
              unfold checkT
              first
              | contradiction
              | (rw [if_pos (by simp_all)]; done)
              | (rw [if_neg (by simp_all), if_pos (by simp_all)]; done)
              | (rw [if_neg (by simp_all), if_neg (by simp_all)]; done)
              | (exfalso; simp_all; done)
          · refine L_ps ?_
            refine L_ps ?_
            refine L_ps ?_
            refine L_ps ?_
            refine L_ps ?_
            refine L_ps ?_
            refine L_r (r_pf rfl rfl) ?_
            refine L_r (r_ab rfl) ?_
            refine L_nil ?_
            refine W_false rfl ?_
            refine W_skip ?_
            refine W_seq ?_
            refine W_region ?_
            refine L_r (r_ai rfl) ?_
            refine L_nil ?_
            refine W_ret ?_
            refine ret1 (v := .int _ _) rfl rfl ?_
            refine ⟨?_, Ch.au⟩
            (try simp only [decide_eq_true_eq, decide_eq_false_iff_not, Bool.not_eq_true', Bool.not_eq_false', ne_eq] at *)
            unfold checkT
            first
            | contradiction
            | (rw [if_pos (by simp_all)]; done)
            | (rw [if_neg (by simp_all), if_pos (by simp_all)]; done)
            | (rw [if_neg (by simp_all), if_neg (by simp_all)]; done)
            | (exfalso; simp_all; done)
    · refine L_ps ?_
      refine L_ps ?_
      refine L_ps ?_
      refine L_r (r_pf rfl rfl) ?_
      refine L_r (r_ab rfl) ?_
      refine L_nil ?_
      refine W_false rfl ?_
      refine W_seq ?_
      refine W_region ?_
      refine L_r (r_mb rfl) ?_
      refine L_r (r_not rfl) ?_
      refine L_r (r_mb rfl) ?_
      refine L_caseb (d := 26) rfl (fun h26 => ?_) (fun h26 => ?_)
      · refine L_g (r_fieldb Tryz.underlying47 rfl (show _ = some 1 from rfl) rfl rfl (show _ = 2 from rfl)) ?_
        refine L_g (r_lb rfl rfl) ?_
        refine L_g (r_neqs rfl rfl) ?_
        refine L_r (r_pt rfl rfl) ?_
        refine L_r (r_ab rfl) ?_
        refine L_nil ?_
        refine W_if rfl (fun h16 => ?_) (fun h16 => ?_)
        · refine W_skip ?_
          refine W_if rfl (fun h16 => ?_) (fun h16 => ?_)
          · refine W_seq ?_
            refine W_region ?_
            refine L_r (r_ai rfl) ?_
            refine L_nil ?_
            refine W_ret ?_
            refine ret1 (v := .int _ _) rfl rfl ?_
            refine ⟨?_, Ch.au⟩
            (try simp only [decide_eq_true_eq, decide_eq_false_iff_not, Bool.not_eq_true', Bool.not_eq_false', ne_eq] at *)
            unfold checkT
            first
            | contradiction
            | (rw [if_pos (by simp_all)]; done)
            | (rw [if_neg (by simp_all), if_pos (by simp_all)]; done)
            | (rw [if_neg (by simp_all), if_neg (by simp_all)]; done)
            | (exfalso; simp_all; done)
          · refine W_skip ?_
            refine W_seq ?_
            refine W_region ?_
            refine L_r (r_ai rfl) ?_
            refine L_nil ?_
            refine W_ret ?_
            refine ret1 (v := .int _ _) rfl rfl ?_
            refine ⟨?_, Ch.au⟩
            (try simp only [decide_eq_true_eq, decide_eq_false_iff_not, Bool.not_eq_true', Bool.not_eq_false', ne_eq] at *)
            unfold checkT
            first
            | contradiction
            | (rw [if_pos (by simp_all)]; done)
            | (rw [if_neg (by simp_all), if_pos (by simp_all)]; done)
            | (rw [if_neg (by simp_all), if_neg (by simp_all)]; done)
            | (exfalso; simp_all; done)
        · refine W_region ?_
          refine L_r (r_mb rfl) ?_
          refine L_r (r_mb rfl) ?_
          refine L_caseb (d := 32) rfl (fun h32 => ?_) (fun h32 => ?_)
          · refine L_g (r_fieldb Tryz.underlying47 rfl (show _ = some 1 from rfl) rfl rfl (show _ = 0 from rfl)) ?_
            refine L_g (r_lb rfl rfl) ?_
            refine L_g (r_fieldb Tryz.underlying47 rfl (show _ = some 1 from rfl) rfl rfl (show _ = 2 from rfl)) ?_
            refine L_g (r_lb rfl rfl) ?_
            refine L_call (.yes 1 true rfl rfl) rfl rfl (r_call Tryz.func68 rfl rfl rfl (by rfl)) (optext_walk base x.op x.s _ (hG.nw Ch.au hb) (by omega) hs) ?_
            rintro v37 w5 ⟨rfl, c5⟩
            have hz5 := c5.size
            refine L_g (r_not rfl) ?_
            refine L_r (r_pt rfl rfl) ?_
            refine L_r (r_ab rfl) ?_
            refine L_nil ?_
            refine W_bool rfl (fun h16 => ?_) (fun h16 => ?_)
            · refine W_seq ?_
              refine W_region ?_
              refine L_r (r_ai rfl) ?_
              refine L_nil ?_
              refine W_ret ?_
              refine ret1 (v := .int _ _) rfl rfl ?_
              refine ⟨?_, Ch.au⟩
              (try simp only [decide_eq_true_eq, decide_eq_false_iff_not, Bool.not_eq_true', Bool.not_eq_false', ne_eq] at *)
              unfold checkT
              first
              | contradiction
              | (rw [if_pos (by simp_all)]; done)
              | (rw [if_neg (by simp_all), if_pos (by simp_all)]; done)
              | (rw [if_neg (by simp_all), if_neg (by simp_all)]; done)
              | (exfalso; simp_all; done)
            · refine W_skip ?_
              refine W_seq ?_
              refine W_region ?_
              refine L_r (r_ai rfl) ?_
              refine L_nil ?_
              refine W_ret ?_
              refine ret1 (v := .int _ _) rfl rfl ?_
              refine ⟨?_, Ch.au⟩
              (try simp only [decide_eq_true_eq, decide_eq_false_iff_not, Bool.not_eq_true', Bool.not_eq_false', ne_eq] at *)
              unfold checkT
              first
              | contradiction
              | (rw [if_pos (by simp_all)]; done)
              | (rw [if_neg (by simp_all), if_pos (by simp_all)]; done)
              | (rw [if_neg (by simp_all), if_neg (by simp_all)]; done)
              | (exfalso; simp_all; done)
          · refine L_ps ?_
            refine L_ps ?_
            refine L_ps ?_
            refine L_ps ?_
            refine L_ps ?_
            refine L_ps ?_
            refine L_r (r_pf rfl rfl) ?_
            refine L_r (r_ab rfl) ?_
            refine L_nil ?_
            refine W_false rfl ?_
            refine W_skip ?_
            refine W_seq ?_
            refine W_region ?_
            refine L_r (r_ai rfl) ?_
            refine L_nil ?_
            refine W_ret ?_
            refine ret1 (v := .int _ _) rfl rfl ?_
            refine ⟨?_, Ch.au⟩
            (try simp only [decide_eq_true_eq, decide_eq_false_iff_not, Bool.not_eq_true', Bool.not_eq_false', ne_eq] at *)
            unfold checkT
            first
            | contradiction
            | (rw [if_pos (by simp_all)]; done)
            | (rw [if_neg (by simp_all), if_pos (by simp_all)]; done)
            | (rw [if_neg (by simp_all), if_neg (by simp_all)]; done)
            | (exfalso; simp_all; done)
      · refine L_ps ?_
        refine L_ps ?_
        refine L_ps ?_
        refine L_r (r_pf rfl rfl) ?_
        refine L_r (r_ab rfl) ?_
        refine L_nil ?_
        refine W_false rfl ?_
        refine W_region ?_
        refine L_r (r_mb rfl) ?_
        refine L_r (r_mb rfl) ?_
        refine L_caseb (d := 32) rfl (fun h32 => ?_) (fun h32 => ?_)
        · refine L_g (r_fieldb Tryz.underlying47 rfl (show _ = some 1 from rfl) rfl rfl (show _ = 0 from rfl)) ?_
          refine L_g (r_lb rfl rfl) ?_
          refine L_g (r_fieldb Tryz.underlying47 rfl (show _ = some 1 from rfl) rfl rfl (show _ = 2 from rfl)) ?_
          refine L_g (r_lb rfl rfl) ?_
          refine L_call (.yes 1 true rfl rfl) rfl rfl (r_call Tryz.func68 rfl rfl rfl (by rfl)) (optext_walk base x.op x.s _ (hG.nw Ch.au hb) (by omega) hs) ?_
          rintro v37 w6 ⟨rfl, c6⟩
          have hz6 := c6.size
          refine L_g (r_not rfl) ?_
          refine L_r (r_pt rfl rfl) ?_
          refine L_r (r_ab rfl) ?_
          refine L_nil ?_
          refine W_bool rfl (fun h16 => ?_) (fun h16 => ?_)
          · refine W_seq ?_
            refine W_region ?_
            refine L_r (r_ai rfl) ?_
            refine L_nil ?_
            refine W_ret ?_
            refine ret1 (v := .int _ _) rfl rfl ?_
            refine ⟨?_, Ch.au⟩
            (try simp only [decide_eq_true_eq, decide_eq_false_iff_not, Bool.not_eq_true', Bool.not_eq_false', ne_eq] at *)
            unfold checkT
            first
            | contradiction
            | (rw [if_pos (by simp_all)]; done)
            | (rw [if_neg (by simp_all), if_pos (by simp_all)]; done)
            | (rw [if_neg (by simp_all), if_neg (by simp_all)]; done)
            | (exfalso; simp_all; done)
          · refine W_skip ?_
            refine W_seq ?_
            refine W_region ?_
            refine L_r (r_ai rfl) ?_
            refine L_nil ?_
            refine W_ret ?_
            refine ret1 (v := .int _ _) rfl rfl ?_
            refine ⟨?_, Ch.au⟩
            (try simp only [decide_eq_true_eq, decide_eq_false_iff_not, Bool.not_eq_true', Bool.not_eq_false', ne_eq] at *)
            unfold checkT
            first
            | contradiction
            | (rw [if_pos (by simp_all)]; done)
            | (rw [if_neg (by simp_all), if_pos (by simp_all)]; done)
            | (rw [if_neg (by simp_all), if_neg (by simp_all)]; done)
            | (exfalso; simp_all; done)
        · refine L_ps ?_
          refine L_ps ?_
          refine L_ps ?_
          refine L_ps ?_
          refine L_ps ?_
          refine L_ps ?_
          refine L_r (r_pf rfl rfl) ?_
          refine L_r (r_ab rfl) ?_
          refine L_nil ?_
          refine W_false rfl ?_
          refine W_skip ?_
          refine W_seq ?_
          refine W_region ?_
          refine L_r (r_ai rfl) ?_
          refine L_nil ?_
          refine W_ret ?_
          refine ret1 (v := .int _ _) rfl rfl ?_
          refine ⟨?_, Ch.au⟩
          (try simp only [decide_eq_true_eq, decide_eq_false_iff_not, Bool.not_eq_true', Bool.not_eq_false', ne_eq] at *)
          unfold checkT
          first
          | contradiction
          | (rw [if_pos (by simp_all)]; done)
          | (rw [if_neg (by simp_all), if_pos (by simp_all)]; done)
          | (rw [if_neg (by simp_all), if_neg (by simp_all)]; done)
          | (exfalso; simp_all; done)
def cellsI (L : List Ins) : List Value := L.flatMap insl
theorem cellsI_append (M K : List Ins) : cellsI (M ++ K) = cellsI M ++ cellsI K := by simp [cellsI]
theorem flatN_length {X : Type} (f : X → List Value) (sz : Nat) (hf : ∀ x, (f x).length = sz) (M : List X) : (M.flatMap f).length = M.length * sz := by
  induction M with
  | nil => simp
  | cons x M ih => rw [List.flatMap_cons, List.length_append, hf, ih, List.length_cons, Nat.succ_mul]; omega
theorem flatN_row {X : Type} (f : X → List Value) (sz : Nat) (hf : ∀ x, (f x).length = sz) : ∀ (z : List X) (i : Nat) (h : i < z.length) (j : Nat) (u : Value), (f z[i])[j]? = some u → (z.flatMap f)[i * sz + j]? = some u
  | x :: z, 0, _, j, u, hj => by
    have hj9 : j < sz := by have := (List.getElem?_eq_some_iff.1 hj).1; simpa [hf] using this
    simp only [List.flatMap_cons, Nat.zero_mul, Nat.zero_add]
    rw [List.getElem?_append_left (by rw [hf]; exact hj9)]
    exact hj
  | x :: z, i + 1, h, j, u, hj => by
    have := flatN_row f sz hf z i (by simpa using h) j u hj
    simp only [List.flatMap_cons]
    rw [List.getElem?_append_right (by rw [hf, Nat.succ_mul]; omega)]
    rw [show (i + 1) * sz + j - (f x).length = i * sz + j by rw [hf, Nat.succ_mul]; omega]
    exact this
theorem cellsI_length (M : List Ins) : (cellsI M).length = M.length * 3 := flatN_length _ 3 (fun _ => rfl) M
theorem cellsI_row (z : List Ins) (i : Nat) (h : i < z.length) (j : Nat) (u : Value) : (insl z[i])[j]? = some u → (cellsI z)[i * 3 + j]? = some u := flatN_row insl 3 (fun _ => rfl) z i h j u
theorem cellsI_one (M : List Ins) : ∀ y ∈ cellsI M, y.oneCell' = true := by
  intro y hy
  simp only [cellsI, List.mem_flatMap] at hy
  obtain ⟨m, _, hy⟩ := hy
  simp only [insl, List.mem_cons, List.not_mem_nil, or_false] at hy
  rcases hy with rfl | rfl | rfl <;> rfl
def allI : List Ins → Int
  | [] => 0
  | x :: L => if checkI x ≠ 0 then checkI x else allI L
theorem allI_drop (z : List Ins) (i : Nat) (h : i < z.length) : allI (z.drop i) = if checkI z[i] ≠ 0 then checkI z[i] else allI (z.drop (i + 1)) := by
  rw [List.drop_eq_getElem_cons h]; rfl
theorem all_ins_walk (base : Nat) (v : Value) (z : List Ins) (w0 : World) (hG : Gv base w0) (hb : base ≤ w0.heap.size) (hv : Sl w0 v 3 z.length (cellsI z)) (hl : z.length ≤ 1000000) (hs : ∀ x ∈ z, x.s.size ≤ 1000000) : Does Tryz.prog 31 #[v] w0 (fun r w' => r = .int .i64 (allI z) ∧ Nw w0 w') := by
  refine fn_of (n := 18) (args := [v]) Tryz.func31 rfl rfl rfl ?_
  refine W_seq ?_
  refine W_region ?_
  refine L_r (r_ai rfl) ?_
  refine L_nil ?_
  refine W_seq ?_
  refine W_seq ?_
  refine W_region ?_
  refine L_r (r_mv) ?_
  refine L_r (r_lenSl Tryz.underlying22 (by conv => lhs; whnf) Sl.au) ?_
  refine L_r (r_mi rfl) ?_
  refine L_nil ?_
  refine W_block ?_
  refine W_loopF [6, 7] (fun mz_ f W => ∃ (i : Nat), f 8 = .int .i64 i ∧ (i ≤ z.length ∧ allI z = allI (z.drop i) ∧ Nw w0 W) ∧ mz_ = z.length - i) ?_ ?_
  · refine ⟨_, 0, rfl, ?_, rfl⟩
    exact ⟨by omega, rfl, Ch.au⟩
  rintro m0 g0 w1 ⟨i, hf8, hR0, rfl⟩
  refine W_as 8 hf8 rfl ?_
  clear hf8
  obtain ⟨hi, ha, hnw⟩ := hR0
  have hz := hnw.size
  refine W_seq ?_
  refine W_region ?_
  refine L_r (r_lss rfl rfl) ?_
  refine L_nil ?_
  refine W_seq ?_
  refine W_if rfl (fun h9 => ?_) (fun h9 => ?_)
  · have hil : i < z.length := by omega
    have hrow := cellsI_row z i hil
    have hsx := hs z[i] (List.getElem_mem _)
    obtain ⟨x, hx⟩ : ∃ x, x = z[i] := ⟨_, rfl⟩
    rw [← hx] at hrow hsx
    refine W_skip ?_
    refine W_seq ?_
    refine W_block ?_
    refine W_seq ?_
    refine W_region ?_
    refine L_r (r_ix Tryz.underlying22 (show _ = some 3 from rfl) (by conv => lhs; whnf) rfl Sl.au) ?_
    refine L_r (r_loadSlrow (us := [.string x.op, .int .i64 x.n, .string x.s]) Tryz.underlying47 rfl rfl rfl rfl Sl.au (by exact hrow)) ?_
    refine L_new (.plain rfl) rfl rfl (r_alloca rfl) (fun w2 b4 hb4 eb2 hs2 c2 => ?_)
    refine L_storerow (.plain rfl) rfl rfl Bk.au (by first | rfl | (simp; done) | assumption) (by first | rfl | assumption) (by first | rfl | (simp [Value.oneCell']; done) | assumption) (fun w3 hb3 hs3 c3 => ?_)
    refine L_nil ?_
    refine W_seq ?_
    refine W_region ?_
    refine L_r (r_loadrow Tryz.underlying47 rfl rfl Bk.au (by first | rfl | assumption)) ?_
    refine L_call (.plain rfl) rfl rfl (r_call Tryz.func46 rfl rfl rfl (by rfl)) (icheck_walk base x _ (hG.nw Ch.au hb) (by omega) hsx) ?_
    rintro v13 w4 ⟨rfl, c4⟩
    have hz4 := c4.size
    refine L_r (r_ai rfl) ?_
    refine L_nil ?_
    refine W_seq ?_
    refine W_region ?_
    refine L_r (r_mi rfl) ?_
    refine L_r (r_neq rfl rfl) ?_
    refine L_nil ?_
    refine W_if rfl (fun h15 => ?_) (fun h15 => ?_)
    · refine W_seq ?_
      refine W_region ?_
      refine L_r (r_mi rfl) ?_
      refine L_r (r_ai rfl) ?_
      refine L_nil ?_
      refine W_ret ?_
      refine ret1 (v := .int _ _) rfl rfl ?_
      refine ⟨?_, Ch.au⟩
      first
      | (have hd := allI_drop z i hil
         rw [← hx, if_pos h15] at hd
         rw [ha, hd])
      | (rw [ha, List.drop_eq_nil_of_le (by omega)]; rfl)
    · refine W_skip ?_
      refine W_region ?_
      refine L_r (r_add rfl rfl (by first | exact wr_i64 (by omega) | rfl)) ?_
      refine L_r (r_mi rfl) ?_
      refine L_nil ?_
      refine ⟨⟨fx2, fx2, trivial⟩, _, ?_, i + 1, rfl, ?_, rfl⟩
      · omega
      have hd := allI_drop z i hil
      rw [← hx, if_neg (by simpa using h15)] at hd
      exact ⟨by omega, ha.trans hd, Ch.au⟩
  · refine W_exit ?_
    repeat (first | refine blk_hit ?_ | refine blk_miss rfl ?_)
    refine W_seq ?_
    refine W_region ?_
    refine L_r (r_ai rfl) ?_
    refine L_nil ?_
    refine W_ret ?_
    refine ret1 (v := .int _ _) rfl rfl ?_
    refine ⟨?_, Ch.au⟩
    first
    | (have hd := allI_drop z i hil
       rw [← hx, if_pos h15] at hd
       rw [ha, hd])
    | (rw [ha, List.drop_eq_nil_of_le (by omega)]; rfl)
end Go.Proofs.YtioonbfinnigpaaGreatDoor

