/- Parts of the proof (Scr12). -/
import Derived.Test.YtgmeojpekdekeaaGreatDoorMSd
namespace Go.Proofs.YtgmeojpekdekeaaGreatDoor
open Go Go.RowKit
set_option linter.unusedVariables false
set_option linter.unusedSimpArgs false
set_option maxRecDepth 100000
noncomputable instance (x : DD) : Decidable (chkQ x) := Classical.propDecidable _
noncomputable instance (x y : Dd) : Decidable (x = y) := Classical.propDecidable _
theorem chk_iff (x : DD) : chkQ x ↔ chkD x.d := by
  have hs := same_only x x.d.kind
  unfold chkQ
  rw [hs]
  have ha : ((x.d.args.any fun v => !decide (argP v)) = false) ↔ ∀ v ∈ x.d.args, argP v := by
    rw [List.any_eq_false]
    exact forall_congr' fun v => imp_congr_right fun _ => by simp
  rw [ha]
  constructor
  ·
   rintro ⟨⟨h1, ⟨a, b, c, d, e, f, g, h, i⟩, h3, h4⟩, h5, h6, h7, h8, h9, h10, h11, h12⟩
   refine ⟨h1, h3, fun k => d.resolve_right k, h4, ?_, ?_, ?_, ?_, ?_, ?_, fun k => (memP_iff _).2 (h5 k), fun k => c.resolve_left k, h6, fun k => h.resolve_left k⟩
   ·
    rcases a with a | a
    ·
     rcases Int.lt_or_le 0 x.d.side with k | k
     · exact .inr ⟨by omega, a⟩
     · exact .inl (by omega)
    · exact .inl a
   ·
    unfold numP
    rcases e with e | e
    ·
     by_cases k : x.d.n = 0
     · exact .inl k
     · exact .inr ⟨e, by omega, h9.2⟩
    · exact .inl e
   ·
    unfold numP
    rcases f with e | e
    ·
     by_cases k : x.d.at' = 0
     · exact .inl k
     · exact .inr ⟨e, by omega, h10.2⟩
    · exact .inl e
   ·
    unfold numP
    rcases g with e | e
    ·
     by_cases k : x.d.ref = 0
     · exact .inl k
     · exact .inr ⟨e, by omega, h11.2⟩
    · exact .inl e
   · exact b.symm
   · exact i.elim (fun k => .inr ⟨k, h12⟩) .inl
  ·
   intro h
   refine ⟨⟨h.kind, ⟨h.side.elim .inr fun k => .inl k.2, h.obj.symm, ?_, ?_, h.n.elim .inr fun k => .inl k.1, h.at'.elim .inr fun k => .inl k.1, h.ref.elim .inr fun k => .inl k.1, ?_, h.bytes.elim .inr fun k => .inl k.1⟩, h.len, h.args⟩, fun k => (memP_iff _).1 (h.m1 k), h.c1, ?_, ?_, ?_, ?_, ?_, ?_⟩
   ·
    by_cases k : hasC x.d.kind 109
    · exact .inl k
    · exact .inr (h.m0 k)
   ·
    by_cases k : x.d.args = []
    · exact .inr k
    · exact .inl (h.has k)
   ·
    by_cases k : hasC x.d.kind 99
    · exact .inl k
    · exact .inr (h.c0 k)
   · rcases h.side with k | k <;> omega
   · rcases h.side with k | k <;> omega
   · rcases h.n with k | k <;> omega
   · rcases h.at' with k | k <;> omega
   · rcases h.ref with k | k <;> omega
   ·
    rcases h.bytes with k | k
    · rw [k]; decide
    · exact k.2
set_option maxHeartbeats 4000000 in
theorem scheck_walk (base : Nat) (x : DD) (w0 : World) (hV : Sv base w0) (hb : base ≤ w0.heap.size) (hx : x.ok w0) (hl : x.d.args.length ≤ 1000000000000000) : Does Tryz.prog 10 #[x.v] w0 (fun r w' => ∃ b : Bool, r = .bool b ∧ (b = true ↔ chkQ x) ∧ Nw w0 w') := by
  have hlo := only_len x (hasF x.d.kind)
  obtain ⟨z, hz⟩ : ∃ z, z = onlyA x (hasF x.d.kind) (hasF x.d.kind).size := ⟨_, rfl⟩
  rw [← hz] at hlo
  obtain ⟨Q1, hQ1⟩ : ∃ Q1 : Prop, Q1 ↔ ((hasO x.d.kind).isSome = true ∧ x.d = z.d ∧ x.d.args.length ≤ 8 ∧ (x.d.args.any fun v => !decide (argP v)) = false) := ⟨_, Iff.rfl⟩
  have hQ : chkQ x ↔ Q1 ∧
    (hasC x.d.kind 109 → nameP x.d.method ∧ ¬ classP x.d.method) ∧ (hasC x.d.kind 99 → classP x.d.cls) ∧ 0 ≤ x.d.side ∧ x.d.side ≤ 1 ∧ (0 ≤ x.d.n ∧ x.d.n ≤ 1000000) ∧ (0 ≤ x.d.at' ∧ x.d.at' ≤ 1000000) ∧ (0 ≤ x.d.ref ∧ x.d.ref ≤ 1000000) ∧ x.d.bytes.size ≤ 100 := by rw [hQ1, hz]; exact Iff.rfl
  refine fn_of (n := 91) (args := [x.v]) Tryz.func10 rfl rfl rfl (W_seq (W_region ?_))
  refine L_new (.plain rfl) rfl rfl (r_boxa rfl) (fun w1 b1 hb1 eb1 hs1 c1 => (L_r (r_ab rfl) (L_nil (W_seq (W_region ?_)))))
  refine L_r (r_fieldb Tryz.underlying29 rfl (show _ = some 1 from rfl) rfl rfl (show _ = 0 from rfl)) (L_r (r_lb rfl rfl) ?_)
  refine L_call (.plain rfl) rfl rfl (r_call Tryz.func18 rfl rfl rfl (by rfl)) (sfind_walk base x.d.kind _ (hV.nw Ch.au hb) (by first | omega | (have := c1.size; omega))) ?_
  rintro v10 w2 ⟨rfl, c2⟩
  have hz2 := c2.size
  refine L_r (r_mv) (L_r (r_ext2_0 rfl) (L_r (r_ext2_1 rfl) (L_r (r_as rfl) (L_r (r_ab rfl) (L_nil (W_seq (W_seq ?_)))))))
  refine W_draw (fun W => Bk W b1 x.row 29 ∧ Sl W x.va 4 x.d.args.length (cellsVa x.d.args)) 21 (m := 21) (by kernel_rfl) rfl (fun w3 c3 hs3 => ?_)
  refine held (by exact ⟨Bk.au, hx.nw Ch.au⟩) (fun hS => ?_)
  refine D_t 0 rfl (fun W hW => r_mb rfl) ?_
  refine D_t 1 rfl (fun W hW => r_not rfl) ?_
  refine D_t 2 rfl (fun W hW => r_mb rfl) ?_
  refine D_caseb (d := 15) rfl (fun h15 => ?_) (fun h15 => ?_)
  ·
   refine D_ps 3 rfl ?_
   refine D_ps 4 rfl ?_
   refine D_ps 5 rfl ?_
   refine D_ps 6 rfl ?_
   refine D_ps 7 rfl ?_
   refine D_ps 8 rfl ?_
   refine D_t 9 rfl (fun W hW => r_pt rfl rfl) ?_
   refine D_t 10 rfl (fun W hW => r_mb rfl) ?_
   refine D_ps 11 rfl ?_
   refine D_ps 12 rfl ?_
   refine D_ps 13 rfl ?_
   refine D_ps 14 rfl ?_
   refine D_t 15 rfl (fun W hW => r_pt rfl rfl) ?_
   refine D_t 16 rfl (fun W hW => r_mb rfl) ?_
   refine D_ps 17 rfl ?_
   refine D_ps 18 rfl ?_
   refine D_ps 19 rfl ?_
   refine D_t 20 rfl (fun W hW => r_pt rfl rfl) ?_
   refine D_done (by kernel_rfl) ?_
   refine W_endF [1, 3] (fun f W => True ∧ (Q1 ∧ Bk W b1 x.row 29 ∧ Nw w0 W)) ?_ ?_
   ·
    refine W_true rfl (W_seq (W_region (L_r (r_ab rfl) (L_nil (W_ret ?_)))))
    refine ret1 (v := .bool _) rfl rfl ?_
    first
    | (refine ⟨_, rfl, ⟨fun h => absurd h (by decide), fun h => ?_⟩, Ch.au⟩
       have k := hQ1.1 (hQ.1 h).1
       clear hQ hQ1 hlo hz hx hl hV hb h
       exfalso
       first
       | (rw [k.1] at h15; exact absurd h15 (by decide))
       | exact absurd (h33.symm.trans k.2.2.2) (by decide)
       | (simp [k.1] at h15; done)
       | (simp only [k.2.2.2] at h33; exact absurd h33 (by decide))
       | (simp_all; done)
       | omega)
    | (refine ⟨_, rfl, ⟨fun h => absurd h (by decide), fun h => ?_⟩, Ch.au⟩
       have k := hQ1.1 (hQ.1 h).1
       clear hQ hQ1 hlo hz hx hl hV hb h
       omega)
    | (refine ⟨_, rfl, ?_, Ch.au⟩
       rw [hQ]
       clear hQ hQ1 hlo hz hx hl hV hb
       (try unfold hasC at *)
       simp_all
       try omega)
   rintro gct33 w4 ⟨-, hCt33⟩
   obtain ⟨hq1, hkb, hnw⟩ := hCt33
   have hzz := hnw.size
   refine W_seq (W_region (L_r (r_ms rfl) ?_))
   refine L_call (.plain rfl) rfl rfl (r_call Tryz.func24 rfl rfl rfl (by rfl)) (scont_use _ _ _) ?_
   rintro v35 w5 ⟨rfl, rfl⟩
   refine L_r (r_not rfl) (L_r (r_mb rfl) ?_)
   refine L_caseb (d := 37) rfl (fun h37 => ?_) (fun h37 => ?_)
   ·
    refine L_ps (L_ps (L_ps (L_ps ?_)))
    refine L_pu ?_
    refine L_pu ?_
    refine L_pu ?_
    refine L_pu (L_ps (L_r (r_pt rfl rfl) (L_r (r_ab rfl) (L_nil (W_seq (W_region (L_r (r_ms rfl) ?_)))))))
    refine L_call (.plain rfl) rfl rfl (r_call Tryz.func24 rfl rfl rfl (by rfl)) (scont_use _ _ _) ?_
    rintro v49 w6 ⟨rfl, rfl⟩
    refine L_r (r_not rfl) (L_r (r_mb rfl) ?_)
    refine L_caseb (d := 51) rfl (fun h51 => ?_) (fun h51 => ?_)
    ·
     refine L_ps (L_ps (L_ps (L_r (r_pt rfl rfl) (L_r (r_ab rfl) (L_nil (W_seq (W_region (L_r (r_mb rfl) ?_))))))))
     refine L_r (r_mb rfl) ?_
     refine L_g (r_mb rfl) (L_r (r_pt rfl rfl) (L_r (r_mb rfl) ?_))
     refine L_g (r_fieldb Tryz.underlying29 rfl (show _ = some 1 from rfl) rfl rfl (show _ = 1 from rfl)) ?_
     refine L_g (r_lb rfl rfl) ?_
     refine L_g (r_geq rfl rfl) (L_r (r_pt rfl rfl) (L_r (r_mb rfl) ?_))
     refine L_case (d := 65) rfl (fun h65 => ?_) (fun h65 => ?_)
     ·
      refine L_g (r_fieldb Tryz.underlying29 rfl (show _ = some 1 from rfl) rfl rfl (show _ = 1 from rfl)) ?_
      refine L_g (r_lb rfl rfl) ?_
      refine L_g (r_leq rfl rfl) (L_r (r_pt rfl rfl) (L_r (r_mb rfl) ?_))
      refine L_case (d := 70) rfl (fun h70 => ?_) (fun h70 => ?_)
      ·
       refine L_g (r_fieldb Tryz.underlying29 rfl (show _ = some 1 from rfl) rfl rfl (show _ = 5 from rfl)) ?_
       refine L_g (r_lb rfl rfl) ?_
       refine L_call (.yes 14 true rfl rfl) rfl rfl (r_call Tryz.func27 rfl rfl rfl (by rfl)) (ssmall_walk _ _) ?_
       rintro v73 w7 ⟨rfl, c7⟩
       have hz7 := c7.size
       refine L_r (r_pt rfl rfl) (L_r (r_mb rfl) ?_)
       refine L_caseb (d := 75) rfl (fun h75 => ?_) (fun h75 => ?_)
       ·
        refine L_g (r_fieldb Tryz.underlying29 rfl (show _ = some 1 from rfl) rfl rfl (show _ = 6 from rfl)) ?_
        refine L_g (r_lb rfl rfl) ?_
        refine L_call (.yes 19 true rfl rfl) rfl rfl (r_call Tryz.func27 rfl rfl rfl (by rfl)) (ssmall_walk _ _) ?_
        rintro v78 w8 ⟨rfl, c8⟩
        have hz8 := c8.size
        refine L_r (r_pt rfl rfl) (L_r (r_mb rfl) ?_)
        refine L_caseb (d := 80) rfl (fun h80 => ?_) (fun h80 => ?_)
        ·
         refine L_g (r_fieldb Tryz.underlying29 rfl (show _ = some 1 from rfl) rfl rfl (show _ = 7 from rfl)) ?_
         refine L_g (r_lb rfl rfl) ?_
         refine L_call (.yes 24 true rfl rfl) rfl rfl (r_call Tryz.func27 rfl rfl rfl (by rfl)) (ssmall_walk _ _) ?_
         rintro v83 w9 ⟨rfl, c9⟩
         have hz9 := c9.size
         refine L_r (r_pt rfl rfl) (L_r (r_mb rfl) ?_)
         refine L_caseb (d := 85) rfl (fun h85 => ?_) (fun h85 => ?_)
         ·
          refine L_g (r_fieldb Tryz.underlying29 rfl (show _ = some 1 from rfl) rfl rfl (show _ = 9 from rfl)) ?_
          refine L_g (r_lb rfl rfl) ?_
          refine L_g (r_lens Tryz.underlying9 rfl) ?_
          refine L_g (r_leq rfl rfl) (L_r (r_pt rfl rfl) (L_r (r_ab rfl) (L_nil (W_ret ?_))))
          refine ret1 (v := .bool _) rfl rfl ?_
          first
          | (refine ⟨_, rfl, ⟨fun h => absurd h (by decide), fun h => ?_⟩, Ch.au⟩
             have k := hQ1.1 (hQ.1 h).1
             clear hQ hQ1 hlo hz hx hl hV hb h
             exfalso
             first
             | (rw [k.1] at h15; exact absurd h15 (by decide))
             | exact absurd (h33.symm.trans k.2.2.2) (by decide)
             | (simp [k.1] at h15; done)
             | (simp only [k.2.2.2] at h33; exact absurd h33 (by decide))
             | (simp_all; done)
             | omega)
          | (refine ⟨_, rfl, ⟨fun h => absurd h (by decide), fun h => ?_⟩, Ch.au⟩
             have k := hQ1.1 (hQ.1 h).1
             clear hQ hQ1 hlo hz hx hl hV hb h
             omega)
          | (refine ⟨_, rfl, ?_, Ch.au⟩
             rw [hQ]
             clear hQ hQ1 hlo hz hx hl hV hb
             (try unfold hasC at *)
             simp_all
             try omega)
         ·
          refine L_ps (L_ps (L_ps (L_ps (L_r (r_pf rfl rfl) (L_r (r_ab rfl) (L_nil (W_ret ?_)))))))
          refine ret1 (v := .bool _) rfl rfl ?_
          first
          | (refine ⟨_, rfl, ⟨fun h => absurd h (by decide), fun h => ?_⟩, Ch.au⟩
             have k := hQ1.1 (hQ.1 h).1
             clear hQ hQ1 hlo hz hx hl hV hb h
             exfalso
             first
             | (rw [k.1] at h15; exact absurd h15 (by decide))
             | exact absurd (h33.symm.trans k.2.2.2) (by decide)
             | (simp [k.1] at h15; done)
             | (simp only [k.2.2.2] at h33; exact absurd h33 (by decide))
             | (simp_all; done)
             | omega)
          | (refine ⟨_, rfl, ⟨fun h => absurd h (by decide), fun h => ?_⟩, Ch.au⟩
             have k := hQ1.1 (hQ.1 h).1
             clear hQ hQ1 hlo hz hx hl hV hb h
             omega)
          | (refine ⟨_, rfl, ?_, Ch.au⟩
             rw [hQ]
             clear hQ hQ1 hlo hz hx hl hV hb
             (try unfold hasC at *)
             simp_all
             try omega)
        ·
         refine L_ps (L_ps (L_ps (L_r (r_pf rfl rfl) (L_r (r_mb rfl) (L_ps (L_ps (L_ps (L_ps ?_))))))))
         refine L_r (r_pf rfl rfl) (L_r (r_ab rfl) (L_nil (W_ret ?_)))
         refine ret1 (v := .bool _) rfl rfl ?_
         first
         | (refine ⟨_, rfl, ⟨fun h => absurd h (by decide), fun h => ?_⟩, Ch.au⟩
            have k := hQ1.1 (hQ.1 h).1
            clear hQ hQ1 hlo hz hx hl hV hb h
            exfalso
            first
            | (rw [k.1] at h15; exact absurd h15 (by decide))
            | exact absurd (h33.symm.trans k.2.2.2) (by decide)
            | (simp [k.1] at h15; done)
            | (simp only [k.2.2.2] at h33; exact absurd h33 (by decide))
            | (simp_all; done)
            | omega)
         | (refine ⟨_, rfl, ⟨fun h => absurd h (by decide), fun h => ?_⟩, Ch.au⟩
            have k := hQ1.1 (hQ.1 h).1
            clear hQ hQ1 hlo hz hx hl hV hb h
            omega)
         | (refine ⟨_, rfl, ?_, Ch.au⟩
            rw [hQ]
            clear hQ hQ1 hlo hz hx hl hV hb
            (try unfold hasC at *)
            simp_all
            try omega)
       ·
        refine L_ps (L_ps (L_ps (L_r (r_pf rfl rfl) (L_r (r_mb rfl) (L_ps (L_ps (L_ps (L_r (r_pf rfl rfl) ?_))))))))
        refine L_r (r_mb rfl) (L_ps (L_ps (L_ps (L_ps (L_r (r_pf rfl rfl) (L_r (r_ab rfl) (L_nil (W_ret ?_))))))))
        refine ret1 (v := .bool _) rfl rfl ?_
        first
        | (refine ⟨_, rfl, ⟨fun h => absurd h (by decide), fun h => ?_⟩, Ch.au⟩
           have k := hQ1.1 (hQ.1 h).1
           clear hQ hQ1 hlo hz hx hl hV hb h
           exfalso
           first
           | (rw [k.1] at h15; exact absurd h15 (by decide))
           | exact absurd (h33.symm.trans k.2.2.2) (by decide)
           | (simp [k.1] at h15; done)
           | (simp only [k.2.2.2] at h33; exact absurd h33 (by decide))
           | (simp_all; done)
           | omega)
        | (refine ⟨_, rfl, ⟨fun h => absurd h (by decide), fun h => ?_⟩, Ch.au⟩
           have k := hQ1.1 (hQ.1 h).1
           clear hQ hQ1 hlo hz hx hl hV hb h
           omega)
        | (refine ⟨_, rfl, ?_, Ch.au⟩
           rw [hQ]
           clear hQ hQ1 hlo hz hx hl hV hb
           (try unfold hasC at *)
           simp_all
           try omega)
      ·
       refine L_ps (L_ps (L_ps (L_r (r_pf rfl rfl) (L_r (r_mb rfl) (L_ps (L_ps (L_ps (L_r (r_pf rfl rfl) ?_))))))))
       refine L_r (r_mb rfl) (L_ps (L_ps (L_ps (L_r (r_pf rfl rfl) (L_r (r_mb rfl) (L_ps (L_ps (L_ps ?_))))))))
       refine L_ps (L_r (r_pf rfl rfl) (L_r (r_ab rfl) (L_nil (W_ret ?_))))
       refine ret1 (v := .bool _) rfl rfl ?_
       first
       | (refine ⟨_, rfl, ⟨fun h => absurd h (by decide), fun h => ?_⟩, Ch.au⟩
          have k := hQ1.1 (hQ.1 h).1
          clear hQ hQ1 hlo hz hx hl hV hb h
          exfalso
          first
          | (rw [k.1] at h15; exact absurd h15 (by decide))
          | exact absurd (h33.symm.trans k.2.2.2) (by decide)
          | (simp [k.1] at h15; done)
          | (simp only [k.2.2.2] at h33; exact absurd h33 (by decide))
          | (simp_all; done)
          | omega)
       | (refine ⟨_, rfl, ⟨fun h => absurd h (by decide), fun h => ?_⟩, Ch.au⟩
          have k := hQ1.1 (hQ.1 h).1
          clear hQ hQ1 hlo hz hx hl hV hb h
          omega)
       | (refine ⟨_, rfl, ?_, Ch.au⟩
          rw [hQ]
          clear hQ hQ1 hlo hz hx hl hV hb
          (try unfold hasC at *)
          simp_all
          try omega)
     ·
      refine L_ps (L_ps (L_ps (L_r (r_pf rfl rfl) (L_r (r_mb rfl) (L_ps (L_ps (L_ps (L_r (r_pf rfl rfl) ?_))))))))
      refine L_r (r_mb rfl) (L_ps (L_ps (L_ps (L_r (r_pf rfl rfl) (L_r (r_mb rfl) (L_ps (L_ps (L_ps ?_))))))))
      refine L_r (r_pf rfl rfl) (L_r (r_mb rfl) (L_ps (L_ps (L_ps (L_ps (L_r (r_pf rfl rfl) (L_r (r_ab rfl) (L_nil ?_))))))))
      refine W_ret ?_
      refine ret1 (v := .bool _) rfl rfl ?_
      first
      | (refine ⟨_, rfl, ⟨fun h => absurd h (by decide), fun h => ?_⟩, Ch.au⟩
         have k := hQ1.1 (hQ.1 h).1
         clear hQ hQ1 hlo hz hx hl hV hb h
         exfalso
         first
         | (rw [k.1] at h15; exact absurd h15 (by decide))
         | exact absurd (h33.symm.trans k.2.2.2) (by decide)
         | (simp [k.1] at h15; done)
         | (simp only [k.2.2.2] at h33; exact absurd h33 (by decide))
         | (simp_all; done)
         | omega)
      | (refine ⟨_, rfl, ⟨fun h => absurd h (by decide), fun h => ?_⟩, Ch.au⟩
         have k := hQ1.1 (hQ.1 h).1
         clear hQ hQ1 hlo hz hx hl hV hb h
         omega)
      | (refine ⟨_, rfl, ?_, Ch.au⟩
         rw [hQ]
         clear hQ hQ1 hlo hz hx hl hV hb
         (try unfold hasC at *)
         simp_all
         try omega)
    ·
     refine L_g (r_fieldb Tryz.underlying29 rfl (show _ = some 1 from rfl) rfl rfl (show _ = 8 from rfl)) ?_
     refine L_g (r_lb rfl rfl) ?_
     refine L_call (.yes 3 false rfl rfl) rfl rfl (r_call Tryz.func26 rfl rfl rfl (by rfl)) (class_walk _ _) ?_
     rintro v54 w10 ⟨rfl, c10⟩
     have hz10 := c10.size
     refine L_r (r_pf rfl rfl) (L_r (r_ab rfl) (L_nil (W_seq (W_region (L_r (r_mb rfl) (L_r (r_mb rfl) ?_))))))
     refine L_g (r_mb rfl) (L_r (r_pt rfl rfl) (L_r (r_mb rfl) ?_))
     refine L_caseb (d := 60) rfl (fun h60 => ?_) (fun h60 => ?_)
     ·
      refine L_g (r_fieldb Tryz.underlying29 rfl (show _ = some 1 from rfl) rfl rfl (show _ = 1 from rfl)) ?_
      refine L_g (r_lb rfl rfl) ?_
      refine L_g (r_geq rfl rfl) (L_r (r_pt rfl rfl) (L_r (r_mb rfl) ?_))
      refine L_case (d := 65) rfl (fun h65 => ?_) (fun h65 => ?_)
      ·
       refine L_g (r_fieldb Tryz.underlying29 rfl (show _ = some 1 from rfl) rfl rfl (show _ = 1 from rfl)) ?_
       refine L_g (r_lb rfl rfl) ?_
       refine L_g (r_leq rfl rfl) (L_r (r_pt rfl rfl) (L_r (r_mb rfl) ?_))
       refine L_case (d := 70) rfl (fun h70 => ?_) (fun h70 => ?_)
       ·
        refine L_g (r_fieldb Tryz.underlying29 rfl (show _ = some 1 from rfl) rfl rfl (show _ = 5 from rfl)) ?_
        refine L_g (r_lb rfl rfl) ?_
        refine L_call (.yes 14 true rfl rfl) rfl rfl (r_call Tryz.func27 rfl rfl rfl (by rfl)) (ssmall_walk _ _) ?_
        rintro v73 w11 ⟨rfl, c11⟩
        have hz11 := c11.size
        refine L_r (r_pt rfl rfl) (L_r (r_mb rfl) ?_)
        refine L_caseb (d := 75) rfl (fun h75 => ?_) (fun h75 => ?_)
        ·
         refine L_g (r_fieldb Tryz.underlying29 rfl (show _ = some 1 from rfl) rfl rfl (show _ = 6 from rfl)) ?_
         refine L_g (r_lb rfl rfl) ?_
         refine L_call (.yes 19 true rfl rfl) rfl rfl (r_call Tryz.func27 rfl rfl rfl (by rfl)) (ssmall_walk _ _) ?_
         rintro v78 w12 ⟨rfl, c12⟩
         have hz12 := c12.size
         refine L_r (r_pt rfl rfl) (L_r (r_mb rfl) ?_)
         refine L_caseb (d := 80) rfl (fun h80 => ?_) (fun h80 => ?_)
         ·
          refine L_g (r_fieldb Tryz.underlying29 rfl (show _ = some 1 from rfl) rfl rfl (show _ = 7 from rfl)) ?_
          refine L_g (r_lb rfl rfl) ?_
          refine L_call (.yes 24 true rfl rfl) rfl rfl (r_call Tryz.func27 rfl rfl rfl (by rfl)) (ssmall_walk _ _) ?_
          rintro v83 w13 ⟨rfl, c13⟩
          have hz13 := c13.size
          refine L_r (r_pt rfl rfl) (L_r (r_mb rfl) ?_)
          refine L_caseb (d := 85) rfl (fun h85 => ?_) (fun h85 => ?_)
          ·
           refine L_g (r_fieldb Tryz.underlying29 rfl (show _ = some 1 from rfl) rfl rfl (show _ = 9 from rfl)) ?_
           refine L_g (r_lb rfl rfl) ?_
           refine L_g (r_lens Tryz.underlying9 rfl) ?_
           refine L_g (r_leq rfl rfl) (L_r (r_pt rfl rfl) (L_r (r_ab rfl) (L_nil (W_ret ?_))))
           refine ret1 (v := .bool _) rfl rfl ?_
           first
           | (refine ⟨_, rfl, ⟨fun h => absurd h (by decide), fun h => ?_⟩, Ch.au⟩
              have k := hQ1.1 (hQ.1 h).1
              clear hQ hQ1 hlo hz hx hl hV hb h
              exfalso
              first
              | (rw [k.1] at h15; exact absurd h15 (by decide))
              | exact absurd (h33.symm.trans k.2.2.2) (by decide)
              | (simp [k.1] at h15; done)
              | (simp only [k.2.2.2] at h33; exact absurd h33 (by decide))
              | (simp_all; done)
              | omega)
           | (refine ⟨_, rfl, ⟨fun h => absurd h (by decide), fun h => ?_⟩, Ch.au⟩
              have k := hQ1.1 (hQ.1 h).1
              clear hQ hQ1 hlo hz hx hl hV hb h
              omega)
           | (refine ⟨_, rfl, ?_, Ch.au⟩
              rw [hQ]
              clear hQ hQ1 hlo hz hx hl hV hb
              (try unfold hasC at *)
              simp_all
              try omega)
          ·
           refine L_ps (L_ps (L_ps (L_ps (L_r (r_pf rfl rfl) (L_r (r_ab rfl) (L_nil (W_ret ?_)))))))
           refine ret1 (v := .bool _) rfl rfl ?_
           first
           | (refine ⟨_, rfl, ⟨fun h => absurd h (by decide), fun h => ?_⟩, Ch.au⟩
              have k := hQ1.1 (hQ.1 h).1
              clear hQ hQ1 hlo hz hx hl hV hb h
              exfalso
              first
              | (rw [k.1] at h15; exact absurd h15 (by decide))
              | exact absurd (h33.symm.trans k.2.2.2) (by decide)
              | (simp [k.1] at h15; done)
              | (simp only [k.2.2.2] at h33; exact absurd h33 (by decide))
              | (simp_all; done)
              | omega)
           | (refine ⟨_, rfl, ⟨fun h => absurd h (by decide), fun h => ?_⟩, Ch.au⟩
              have k := hQ1.1 (hQ.1 h).1
              clear hQ hQ1 hlo hz hx hl hV hb h
              omega)
           | (refine ⟨_, rfl, ?_, Ch.au⟩
              rw [hQ]
              clear hQ hQ1 hlo hz hx hl hV hb
              (try unfold hasC at *)
              simp_all
              try omega)
         ·
          refine L_ps (L_ps (L_ps (L_r (r_pf rfl rfl) (L_r (r_mb rfl) (L_ps (L_ps (L_ps (L_ps ?_))))))))
          refine L_r (r_pf rfl rfl) (L_r (r_ab rfl) (L_nil (W_ret ?_)))
          refine ret1 (v := .bool _) rfl rfl ?_
          first
          | (refine ⟨_, rfl, ⟨fun h => absurd h (by decide), fun h => ?_⟩, Ch.au⟩
             have k := hQ1.1 (hQ.1 h).1
             clear hQ hQ1 hlo hz hx hl hV hb h
             exfalso
             first
             | (rw [k.1] at h15; exact absurd h15 (by decide))
             | exact absurd (h33.symm.trans k.2.2.2) (by decide)
             | (simp [k.1] at h15; done)
             | (simp only [k.2.2.2] at h33; exact absurd h33 (by decide))
             | (simp_all; done)
             | omega)
          | (refine ⟨_, rfl, ⟨fun h => absurd h (by decide), fun h => ?_⟩, Ch.au⟩
             have k := hQ1.1 (hQ.1 h).1
             clear hQ hQ1 hlo hz hx hl hV hb h
             omega)
          | (refine ⟨_, rfl, ?_, Ch.au⟩
             rw [hQ]
             clear hQ hQ1 hlo hz hx hl hV hb
             (try unfold hasC at *)
             simp_all
             try omega)
        ·
         refine L_ps (L_ps (L_ps (L_r (r_pf rfl rfl) (L_r (r_mb rfl) (L_ps (L_ps (L_ps (L_r (r_pf rfl rfl) ?_))))))))
         refine L_r (r_mb rfl) (L_ps (L_ps (L_ps (L_ps (L_r (r_pf rfl rfl) (L_r (r_ab rfl) (L_nil (W_ret ?_))))))))
         refine ret1 (v := .bool _) rfl rfl ?_
         first
         | (refine ⟨_, rfl, ⟨fun h => absurd h (by decide), fun h => ?_⟩, Ch.au⟩
            have k := hQ1.1 (hQ.1 h).1
            clear hQ hQ1 hlo hz hx hl hV hb h
            exfalso
            first
            | (rw [k.1] at h15; exact absurd h15 (by decide))
            | exact absurd (h33.symm.trans k.2.2.2) (by decide)
            | (simp [k.1] at h15; done)
            | (simp only [k.2.2.2] at h33; exact absurd h33 (by decide))
            | (simp_all; done)
            | omega)
         | (refine ⟨_, rfl, ⟨fun h => absurd h (by decide), fun h => ?_⟩, Ch.au⟩
            have k := hQ1.1 (hQ.1 h).1
            clear hQ hQ1 hlo hz hx hl hV hb h
            omega)
         | (refine ⟨_, rfl, ?_, Ch.au⟩
            rw [hQ]
            clear hQ hQ1 hlo hz hx hl hV hb
            (try unfold hasC at *)
            simp_all
            try omega)
       ·
        refine L_ps (L_ps (L_ps (L_r (r_pf rfl rfl) (L_r (r_mb rfl) (L_ps (L_ps (L_ps (L_r (r_pf rfl rfl) ?_))))))))
        refine L_r (r_mb rfl) (L_ps (L_ps (L_ps (L_r (r_pf rfl rfl) (L_r (r_mb rfl) (L_ps (L_ps (L_ps ?_))))))))
        refine L_ps (L_r (r_pf rfl rfl) (L_r (r_ab rfl) (L_nil (W_ret ?_))))
        refine ret1 (v := .bool _) rfl rfl ?_
        first
        | (refine ⟨_, rfl, ⟨fun h => absurd h (by decide), fun h => ?_⟩, Ch.au⟩
           have k := hQ1.1 (hQ.1 h).1
           clear hQ hQ1 hlo hz hx hl hV hb h
           exfalso
           first
           | (rw [k.1] at h15; exact absurd h15 (by decide))
           | exact absurd (h33.symm.trans k.2.2.2) (by decide)
           | (simp [k.1] at h15; done)
           | (simp only [k.2.2.2] at h33; exact absurd h33 (by decide))
           | (simp_all; done)
           | omega)
        | (refine ⟨_, rfl, ⟨fun h => absurd h (by decide), fun h => ?_⟩, Ch.au⟩
           have k := hQ1.1 (hQ.1 h).1
           clear hQ hQ1 hlo hz hx hl hV hb h
           omega)
        | (refine ⟨_, rfl, ?_, Ch.au⟩
           rw [hQ]
           clear hQ hQ1 hlo hz hx hl hV hb
           (try unfold hasC at *)
           simp_all
           try omega)
      ·
       refine L_ps (L_ps (L_ps (L_r (r_pf rfl rfl) (L_r (r_mb rfl) (L_ps (L_ps (L_ps (L_r (r_pf rfl rfl) ?_))))))))
       refine L_r (r_mb rfl) (L_ps (L_ps (L_ps (L_r (r_pf rfl rfl) (L_r (r_mb rfl) (L_ps (L_ps (L_ps ?_))))))))
       refine L_r (r_pf rfl rfl) (L_r (r_mb rfl) (L_ps (L_ps (L_ps (L_ps (L_r (r_pf rfl rfl) (L_r (r_ab rfl) (L_nil ?_))))))))
       refine W_ret ?_
       refine ret1 (v := .bool _) rfl rfl ?_
       first
       | (refine ⟨_, rfl, ⟨fun h => absurd h (by decide), fun h => ?_⟩, Ch.au⟩
          have k := hQ1.1 (hQ.1 h).1
          clear hQ hQ1 hlo hz hx hl hV hb h
          exfalso
          first
          | (rw [k.1] at h15; exact absurd h15 (by decide))
          | exact absurd (h33.symm.trans k.2.2.2) (by decide)
          | (simp [k.1] at h15; done)
          | (simp only [k.2.2.2] at h33; exact absurd h33 (by decide))
          | (simp_all; done)
          | omega)
       | (refine ⟨_, rfl, ⟨fun h => absurd h (by decide), fun h => ?_⟩, Ch.au⟩
          have k := hQ1.1 (hQ.1 h).1
          clear hQ hQ1 hlo hz hx hl hV hb h
          omega)
       | (refine ⟨_, rfl, ?_, Ch.au⟩
          rw [hQ]
          clear hQ hQ1 hlo hz hx hl hV hb
          (try unfold hasC at *)
          simp_all
          try omega)
     ·
      refine L_ps (L_ps (L_ps (L_r (r_pf rfl rfl) (L_r (r_mb rfl) (L_ps (L_ps (L_ps (L_r (r_pf rfl rfl) ?_))))))))
      refine L_r (r_mb rfl) (L_ps (L_ps (L_ps (L_r (r_pf rfl rfl) (L_r (r_mb rfl) (L_ps (L_ps (L_ps ?_))))))))
      refine L_r (r_pf rfl rfl) (L_r (r_mb rfl) (L_ps (L_ps (L_ps (L_r (r_pf rfl rfl) (L_r (r_mb rfl) (L_ps (L_ps ?_))))))))
      refine L_ps (L_ps (L_r (r_pf rfl rfl) (L_r (r_ab rfl) (L_nil (W_ret ?_)))))
      refine ret1 (v := .bool _) rfl rfl ?_
      first
      | (refine ⟨_, rfl, ⟨fun h => absurd h (by decide), fun h => ?_⟩, Ch.au⟩
         have k := hQ1.1 (hQ.1 h).1
         clear hQ hQ1 hlo hz hx hl hV hb h
         exfalso
         first
         | (rw [k.1] at h15; exact absurd h15 (by decide))
         | exact absurd (h33.symm.trans k.2.2.2) (by decide)
         | (simp [k.1] at h15; done)
         | (simp only [k.2.2.2] at h33; exact absurd h33 (by decide))
         | (simp_all; done)
         | omega)
      | (refine ⟨_, rfl, ⟨fun h => absurd h (by decide), fun h => ?_⟩, Ch.au⟩
         have k := hQ1.1 (hQ.1 h).1
         clear hQ hQ1 hlo hz hx hl hV hb h
         omega)
      | (refine ⟨_, rfl, ?_, Ch.au⟩
         rw [hQ]
         clear hQ hQ1 hlo hz hx hl hV hb
         (try unfold hasC at *)
         simp_all
         try omega)
   ·
    refine L_g (r_fieldb Tryz.underlying29 rfl (show _ = some 1 from rfl) rfl rfl (show _ = 3 from rfl)) ?_
    refine L_g (r_lb rfl rfl) ?_
    refine L_call (.yes 3 false rfl rfl) rfl rfl (r_call Tryz.func25 rfl rfl rfl (by rfl)) (name_walk _ _) ?_
    rintro v40 w14 ⟨rfl, c14⟩
    have hz14 := c14.size
    refine L_g (r_mb rfl) ?_
    refine L_caseb (d := 41) rfl (fun h41 => ?_) (fun h41 => ?_)
    ·
     refine L_g (r_fieldb Tryz.underlying29 rfl (show _ = some 1 from rfl) rfl rfl (show _ = 3 from rfl)) ?_
     refine L_g (r_lb rfl rfl) ?_
     refine L_call (.yes 7 true rfl rfl) rfl rfl (r_call Tryz.func26 rfl rfl rfl (by rfl)) (class_walk _ _) ?_
     rintro v44 w15 ⟨rfl, c15⟩
     have hz15 := c15.size
     refine L_g (r_not rfl) ?_
     refine L_g (r_pt rfl rfl) (L_r (r_pf rfl rfl) (L_r (r_ab rfl) (L_nil (W_seq (W_region (L_r (r_ms rfl) ?_))))))
     refine L_call (.plain rfl) rfl rfl (r_call Tryz.func24 rfl rfl rfl (by rfl)) (scont_use _ _ _) ?_
     rintro v49 w16 ⟨rfl, rfl⟩
     refine L_r (r_not rfl) (L_r (r_mb rfl) ?_)
     refine L_caseb (d := 51) rfl (fun h51 => ?_) (fun h51 => ?_)
     ·
      refine L_ps (L_ps (L_ps (L_r (r_pt rfl rfl) (L_r (r_ab rfl) (L_nil (W_seq (W_region (L_r (r_mb rfl) ?_))))))))
      refine L_r (r_mb rfl) ?_
      refine L_caseb (d := 57) rfl (fun h57 => ?_) (fun h57 => ?_)
      ·
       refine L_g (r_mb rfl) (L_r (r_pt rfl rfl) (L_r (r_mb rfl) ?_))
       refine L_g (r_fieldb Tryz.underlying29 rfl (show _ = some 1 from rfl) rfl rfl (show _ = 1 from rfl)) ?_
       refine L_g (r_lb rfl rfl) ?_
       refine L_g (r_geq rfl rfl) (L_r (r_pt rfl rfl) (L_r (r_mb rfl) ?_))
       refine L_case (d := 65) rfl (fun h65 => ?_) (fun h65 => ?_)
       ·
        refine L_g (r_fieldb Tryz.underlying29 rfl (show _ = some 1 from rfl) rfl rfl (show _ = 1 from rfl)) ?_
        refine L_g (r_lb rfl rfl) ?_
        refine L_g (r_leq rfl rfl) (L_r (r_pt rfl rfl) (L_r (r_mb rfl) ?_))
        refine L_case (d := 70) rfl (fun h70 => ?_) (fun h70 => ?_)
        ·
         refine L_g (r_fieldb Tryz.underlying29 rfl (show _ = some 1 from rfl) rfl rfl (show _ = 5 from rfl)) ?_
         refine L_g (r_lb rfl rfl) ?_
         refine L_call (.yes 14 true rfl rfl) rfl rfl (r_call Tryz.func27 rfl rfl rfl (by rfl)) (ssmall_walk _ _) ?_
         rintro v73 w17 ⟨rfl, c17⟩
         have hz17 := c17.size
         refine L_r (r_pt rfl rfl) (L_r (r_mb rfl) ?_)
         refine L_caseb (d := 75) rfl (fun h75 => ?_) (fun h75 => ?_)
         ·
          refine L_g (r_fieldb Tryz.underlying29 rfl (show _ = some 1 from rfl) rfl rfl (show _ = 6 from rfl)) ?_
          refine L_g (r_lb rfl rfl) ?_
          refine L_call (.yes 19 true rfl rfl) rfl rfl (r_call Tryz.func27 rfl rfl rfl (by rfl)) (ssmall_walk _ _) ?_
          rintro v78 w18 ⟨rfl, c18⟩
          have hz18 := c18.size
          refine L_r (r_pt rfl rfl) (L_r (r_mb rfl) ?_)
          refine L_caseb (d := 80) rfl (fun h80 => ?_) (fun h80 => ?_)
          ·
           refine L_g (r_fieldb Tryz.underlying29 rfl (show _ = some 1 from rfl) rfl rfl (show _ = 7 from rfl)) ?_
           refine L_g (r_lb rfl rfl) ?_
           refine L_call (.yes 24 true rfl rfl) rfl rfl (r_call Tryz.func27 rfl rfl rfl (by rfl)) (ssmall_walk _ _) ?_
           rintro v83 w19 ⟨rfl, c19⟩
           have hz19 := c19.size
           refine L_r (r_pt rfl rfl) (L_r (r_mb rfl) ?_)
           refine L_caseb (d := 85) rfl (fun h85 => ?_) (fun h85 => ?_)
           ·
            refine L_g (r_fieldb Tryz.underlying29 rfl (show _ = some 1 from rfl) rfl rfl (show _ = 9 from rfl)) ?_
            refine L_g (r_lb rfl rfl) ?_
            refine L_g (r_lens Tryz.underlying9 rfl) ?_
            refine L_g (r_leq rfl rfl) (L_r (r_pt rfl rfl) (L_r (r_ab rfl) (L_nil (W_ret ?_))))
            refine ret1 (v := .bool _) rfl rfl ?_
            first
            | (refine ⟨_, rfl, ⟨fun h => absurd h (by decide), fun h => ?_⟩, Ch.au⟩
               have k := hQ1.1 (hQ.1 h).1
               clear hQ hQ1 hlo hz hx hl hV hb h
               exfalso
               first
               | (rw [k.1] at h15; exact absurd h15 (by decide))
               | exact absurd (h33.symm.trans k.2.2.2) (by decide)
               | (simp [k.1] at h15; done)
               | (simp only [k.2.2.2] at h33; exact absurd h33 (by decide))
               | (simp_all; done)
               | omega)
            | (refine ⟨_, rfl, ⟨fun h => absurd h (by decide), fun h => ?_⟩, Ch.au⟩
               have k := hQ1.1 (hQ.1 h).1
               clear hQ hQ1 hlo hz hx hl hV hb h
               omega)
            | (refine ⟨_, rfl, ?_, Ch.au⟩
               rw [hQ]
               clear hQ hQ1 hlo hz hx hl hV hb
               (try unfold hasC at *)
               simp_all
               try omega)
           ·
            refine L_ps (L_ps (L_ps (L_ps (L_r (r_pf rfl rfl) (L_r (r_ab rfl) (L_nil (W_ret ?_)))))))
            refine ret1 (v := .bool _) rfl rfl ?_
            first
            | (refine ⟨_, rfl, ⟨fun h => absurd h (by decide), fun h => ?_⟩, Ch.au⟩
               have k := hQ1.1 (hQ.1 h).1
               clear hQ hQ1 hlo hz hx hl hV hb h
               exfalso
               first
               | (rw [k.1] at h15; exact absurd h15 (by decide))
               | exact absurd (h33.symm.trans k.2.2.2) (by decide)
               | (simp [k.1] at h15; done)
               | (simp only [k.2.2.2] at h33; exact absurd h33 (by decide))
               | (simp_all; done)
               | omega)
            | (refine ⟨_, rfl, ⟨fun h => absurd h (by decide), fun h => ?_⟩, Ch.au⟩
               have k := hQ1.1 (hQ.1 h).1
               clear hQ hQ1 hlo hz hx hl hV hb h
               omega)
            | (refine ⟨_, rfl, ?_, Ch.au⟩
               rw [hQ]
               clear hQ hQ1 hlo hz hx hl hV hb
               (try unfold hasC at *)
               simp_all
               try omega)
          ·
           refine L_ps (L_ps (L_ps (L_r (r_pf rfl rfl) (L_r (r_mb rfl) (L_ps (L_ps (L_ps (L_ps ?_))))))))
           refine L_r (r_pf rfl rfl) (L_r (r_ab rfl) (L_nil (W_ret ?_)))
           refine ret1 (v := .bool _) rfl rfl ?_
           first
           | (refine ⟨_, rfl, ⟨fun h => absurd h (by decide), fun h => ?_⟩, Ch.au⟩
              have k := hQ1.1 (hQ.1 h).1
              clear hQ hQ1 hlo hz hx hl hV hb h
              exfalso
              first
              | (rw [k.1] at h15; exact absurd h15 (by decide))
              | exact absurd (h33.symm.trans k.2.2.2) (by decide)
              | (simp [k.1] at h15; done)
              | (simp only [k.2.2.2] at h33; exact absurd h33 (by decide))
              | (simp_all; done)
              | omega)
           | (refine ⟨_, rfl, ⟨fun h => absurd h (by decide), fun h => ?_⟩, Ch.au⟩
              have k := hQ1.1 (hQ.1 h).1
              clear hQ hQ1 hlo hz hx hl hV hb h
              omega)
           | (refine ⟨_, rfl, ?_, Ch.au⟩
              rw [hQ]
              clear hQ hQ1 hlo hz hx hl hV hb
              (try unfold hasC at *)
              simp_all
              try omega)
         ·
          refine L_ps (L_ps (L_ps (L_r (r_pf rfl rfl) (L_r (r_mb rfl) (L_ps (L_ps (L_ps (L_r (r_pf rfl rfl) ?_))))))))
          refine L_r (r_mb rfl) (L_ps (L_ps (L_ps (L_ps (L_r (r_pf rfl rfl) (L_r (r_ab rfl) (L_nil (W_ret ?_))))))))
          refine ret1 (v := .bool _) rfl rfl ?_
          first
          | (refine ⟨_, rfl, ⟨fun h => absurd h (by decide), fun h => ?_⟩, Ch.au⟩
             have k := hQ1.1 (hQ.1 h).1
             clear hQ hQ1 hlo hz hx hl hV hb h
             exfalso
             first
             | (rw [k.1] at h15; exact absurd h15 (by decide))
             | exact absurd (h33.symm.trans k.2.2.2) (by decide)
             | (simp [k.1] at h15; done)
             | (simp only [k.2.2.2] at h33; exact absurd h33 (by decide))
             | (simp_all; done)
             | omega)
          | (refine ⟨_, rfl, ⟨fun h => absurd h (by decide), fun h => ?_⟩, Ch.au⟩
             have k := hQ1.1 (hQ.1 h).1
             clear hQ hQ1 hlo hz hx hl hV hb h
             omega)
          | (refine ⟨_, rfl, ?_, Ch.au⟩
             rw [hQ]
             clear hQ hQ1 hlo hz hx hl hV hb
             (try unfold hasC at *)
             simp_all
             try omega)
        ·
         refine L_ps (L_ps (L_ps (L_r (r_pf rfl rfl) (L_r (r_mb rfl) (L_ps (L_ps (L_ps (L_r (r_pf rfl rfl) ?_))))))))
         refine L_r (r_mb rfl) (L_ps (L_ps (L_ps (L_r (r_pf rfl rfl) (L_r (r_mb rfl) (L_ps (L_ps (L_ps ?_))))))))
         refine L_ps (L_r (r_pf rfl rfl) (L_r (r_ab rfl) (L_nil (W_ret ?_))))
         refine ret1 (v := .bool _) rfl rfl ?_
         first
         | (refine ⟨_, rfl, ⟨fun h => absurd h (by decide), fun h => ?_⟩, Ch.au⟩
            have k := hQ1.1 (hQ.1 h).1
            clear hQ hQ1 hlo hz hx hl hV hb h
            exfalso
            first
            | (rw [k.1] at h15; exact absurd h15 (by decide))
            | exact absurd (h33.symm.trans k.2.2.2) (by decide)
            | (simp [k.1] at h15; done)
            | (simp only [k.2.2.2] at h33; exact absurd h33 (by decide))
            | (simp_all; done)
            | omega)
         | (refine ⟨_, rfl, ⟨fun h => absurd h (by decide), fun h => ?_⟩, Ch.au⟩
            have k := hQ1.1 (hQ.1 h).1
            clear hQ hQ1 hlo hz hx hl hV hb h
            omega)
         | (refine ⟨_, rfl, ?_, Ch.au⟩
            rw [hQ]
            clear hQ hQ1 hlo hz hx hl hV hb
            (try unfold hasC at *)
            simp_all
            try omega)
       ·
        refine L_ps (L_ps (L_ps (L_r (r_pf rfl rfl) (L_r (r_mb rfl) (L_ps (L_ps (L_ps (L_r (r_pf rfl rfl) ?_))))))))
        refine L_r (r_mb rfl) (L_ps (L_ps (L_ps (L_r (r_pf rfl rfl) (L_r (r_mb rfl) (L_ps (L_ps (L_ps ?_))))))))
        refine L_r (r_pf rfl rfl) (L_r (r_mb rfl) (L_ps (L_ps (L_ps (L_ps (L_r (r_pf rfl rfl) (L_r (r_ab rfl) (L_nil ?_))))))))
        refine W_ret ?_
        refine ret1 (v := .bool _) rfl rfl ?_
        first
        | (refine ⟨_, rfl, ⟨fun h => absurd h (by decide), fun h => ?_⟩, Ch.au⟩
           have k := hQ1.1 (hQ.1 h).1
           clear hQ hQ1 hlo hz hx hl hV hb h
           exfalso
           first
           | (rw [k.1] at h15; exact absurd h15 (by decide))
           | exact absurd (h33.symm.trans k.2.2.2) (by decide)
           | (simp [k.1] at h15; done)
           | (simp only [k.2.2.2] at h33; exact absurd h33 (by decide))
           | (simp_all; done)
           | omega)
        | (refine ⟨_, rfl, ⟨fun h => absurd h (by decide), fun h => ?_⟩, Ch.au⟩
           have k := hQ1.1 (hQ.1 h).1
           clear hQ hQ1 hlo hz hx hl hV hb h
           omega)
        | (refine ⟨_, rfl, ?_, Ch.au⟩
           rw [hQ]
           clear hQ hQ1 hlo hz hx hl hV hb
           (try unfold hasC at *)
           simp_all
           try omega)
      ·
       refine L_ps (L_r (r_pf rfl rfl) (L_r (r_mb rfl) (L_ps (L_ps (L_ps (L_r (r_pf rfl rfl) (L_r (r_mb rfl) (L_ps ?_))))))))
       refine L_ps (L_ps (L_r (r_pf rfl rfl) (L_r (r_mb rfl) (L_ps (L_ps (L_ps (L_r (r_pf rfl rfl) (L_r (r_mb rfl) ?_))))))))
       refine L_ps (L_ps (L_ps (L_r (r_pf rfl rfl) (L_r (r_mb rfl) (L_ps (L_ps (L_ps (L_r (r_pf rfl rfl) ?_))))))))
       refine L_r (r_mb rfl) (L_ps (L_ps (L_ps (L_ps (L_r (r_pf rfl rfl) (L_r (r_ab rfl) (L_nil (W_ret ?_))))))))
       refine ret1 (v := .bool _) rfl rfl ?_
       first
       | (refine ⟨_, rfl, ⟨fun h => absurd h (by decide), fun h => ?_⟩, Ch.au⟩
          have k := hQ1.1 (hQ.1 h).1
          clear hQ hQ1 hlo hz hx hl hV hb h
          exfalso
          first
          | (rw [k.1] at h15; exact absurd h15 (by decide))
          | exact absurd (h33.symm.trans k.2.2.2) (by decide)
          | (simp [k.1] at h15; done)
          | (simp only [k.2.2.2] at h33; exact absurd h33 (by decide))
          | (simp_all; done)
          | omega)
       | (refine ⟨_, rfl, ⟨fun h => absurd h (by decide), fun h => ?_⟩, Ch.au⟩
          have k := hQ1.1 (hQ.1 h).1
          clear hQ hQ1 hlo hz hx hl hV hb h
          omega)
       | (refine ⟨_, rfl, ?_, Ch.au⟩
          rw [hQ]
          clear hQ hQ1 hlo hz hx hl hV hb
          (try unfold hasC at *)
          simp_all
          try omega)
     ·
      refine L_g (r_fieldb Tryz.underlying29 rfl (show _ = some 1 from rfl) rfl rfl (show _ = 8 from rfl)) ?_
      refine L_g (r_lb rfl rfl) ?_
      refine L_call (.yes 3 false rfl rfl) rfl rfl (r_call Tryz.func26 rfl rfl rfl (by rfl)) (class_walk _ _) ?_
      rintro v54 w20 ⟨rfl, c20⟩
      have hz20 := c20.size
      refine L_r (r_pf rfl rfl) (L_r (r_ab rfl) (L_nil (W_seq (W_region (L_r (r_mb rfl) (L_r (r_mb rfl) ?_))))))
      refine L_caseb (d := 57) rfl (fun h57 => ?_) (fun h57 => ?_)
      ·
       refine L_g (r_mb rfl) (L_r (r_pt rfl rfl) (L_r (r_mb rfl) ?_))
       refine L_caseb (d := 60) rfl (fun h60 => ?_) (fun h60 => ?_)
       ·
        refine L_g (r_fieldb Tryz.underlying29 rfl (show _ = some 1 from rfl) rfl rfl (show _ = 1 from rfl)) ?_
        refine L_g (r_lb rfl rfl) ?_
        refine L_g (r_geq rfl rfl) (L_r (r_pt rfl rfl) (L_r (r_mb rfl) ?_))
        refine L_case (d := 65) rfl (fun h65 => ?_) (fun h65 => ?_)
        ·
         refine L_g (r_fieldb Tryz.underlying29 rfl (show _ = some 1 from rfl) rfl rfl (show _ = 1 from rfl)) ?_
         refine L_g (r_lb rfl rfl) ?_
         refine L_g (r_leq rfl rfl) (L_r (r_pt rfl rfl) (L_r (r_mb rfl) ?_))
         refine L_case (d := 70) rfl (fun h70 => ?_) (fun h70 => ?_)
         ·
          refine L_g (r_fieldb Tryz.underlying29 rfl (show _ = some 1 from rfl) rfl rfl (show _ = 5 from rfl)) ?_
          refine L_g (r_lb rfl rfl) ?_
          refine L_call (.yes 14 true rfl rfl) rfl rfl (r_call Tryz.func27 rfl rfl rfl (by rfl)) (ssmall_walk _ _) ?_
          rintro v73 w21 ⟨rfl, c21⟩
          have hz21 := c21.size
          refine L_r (r_pt rfl rfl) (L_r (r_mb rfl) ?_)
          refine L_caseb (d := 75) rfl (fun h75 => ?_) (fun h75 => ?_)
          ·
           refine L_g (r_fieldb Tryz.underlying29 rfl (show _ = some 1 from rfl) rfl rfl (show _ = 6 from rfl)) ?_
           refine L_g (r_lb rfl rfl) ?_
           refine L_call (.yes 19 true rfl rfl) rfl rfl (r_call Tryz.func27 rfl rfl rfl (by rfl)) (ssmall_walk _ _) ?_
           rintro v78 w22 ⟨rfl, c22⟩
           have hz22 := c22.size
           refine L_r (r_pt rfl rfl) (L_r (r_mb rfl) ?_)
           refine L_caseb (d := 80) rfl (fun h80 => ?_) (fun h80 => ?_)
           ·
            refine L_g (r_fieldb Tryz.underlying29 rfl (show _ = some 1 from rfl) rfl rfl (show _ = 7 from rfl)) ?_
            refine L_g (r_lb rfl rfl) ?_
            refine L_call (.yes 24 true rfl rfl) rfl rfl (r_call Tryz.func27 rfl rfl rfl (by rfl)) (ssmall_walk _ _) ?_
            rintro v83 w23 ⟨rfl, c23⟩
            have hz23 := c23.size
            refine L_r (r_pt rfl rfl) (L_r (r_mb rfl) ?_)
            refine L_caseb (d := 85) rfl (fun h85 => ?_) (fun h85 => ?_)
            ·
             refine L_g (r_fieldb Tryz.underlying29 rfl (show _ = some 1 from rfl) rfl rfl (show _ = 9 from rfl)) ?_
             refine L_g (r_lb rfl rfl) ?_
             refine L_g (r_lens Tryz.underlying9 rfl) ?_
             refine L_g (r_leq rfl rfl) (L_r (r_pt rfl rfl) (L_r (r_ab rfl) (L_nil (W_ret ?_))))
             refine ret1 (v := .bool _) rfl rfl ?_
             first
             | (refine ⟨_, rfl, ⟨fun h => absurd h (by decide), fun h => ?_⟩, Ch.au⟩
                have k := hQ1.1 (hQ.1 h).1
                clear hQ hQ1 hlo hz hx hl hV hb h
                exfalso
                first
                | (rw [k.1] at h15; exact absurd h15 (by decide))
                | exact absurd (h33.symm.trans k.2.2.2) (by decide)
                | (simp [k.1] at h15; done)
                | (simp only [k.2.2.2] at h33; exact absurd h33 (by decide))
                | (simp_all; done)
                | omega)
             | (refine ⟨_, rfl, ⟨fun h => absurd h (by decide), fun h => ?_⟩, Ch.au⟩
                have k := hQ1.1 (hQ.1 h).1
                clear hQ hQ1 hlo hz hx hl hV hb h
                omega)
             | (refine ⟨_, rfl, ?_, Ch.au⟩
                rw [hQ]
                clear hQ hQ1 hlo hz hx hl hV hb
                (try unfold hasC at *)
                simp_all
                try omega)
            ·
             refine L_ps (L_ps (L_ps (L_ps (L_r (r_pf rfl rfl) (L_r (r_ab rfl) (L_nil (W_ret ?_)))))))
             refine ret1 (v := .bool _) rfl rfl ?_
             first
             | (refine ⟨_, rfl, ⟨fun h => absurd h (by decide), fun h => ?_⟩, Ch.au⟩
                have k := hQ1.1 (hQ.1 h).1
                clear hQ hQ1 hlo hz hx hl hV hb h
                exfalso
                first
                | (rw [k.1] at h15; exact absurd h15 (by decide))
                | exact absurd (h33.symm.trans k.2.2.2) (by decide)
                | (simp [k.1] at h15; done)
                | (simp only [k.2.2.2] at h33; exact absurd h33 (by decide))
                | (simp_all; done)
                | omega)
             | (refine ⟨_, rfl, ⟨fun h => absurd h (by decide), fun h => ?_⟩, Ch.au⟩
                have k := hQ1.1 (hQ.1 h).1
                clear hQ hQ1 hlo hz hx hl hV hb h
                omega)
             | (refine ⟨_, rfl, ?_, Ch.au⟩
                rw [hQ]
                clear hQ hQ1 hlo hz hx hl hV hb
                (try unfold hasC at *)
                simp_all
                try omega)
           ·
            refine L_ps (L_ps (L_ps (L_r (r_pf rfl rfl) (L_r (r_mb rfl) (L_ps (L_ps (L_ps (L_ps ?_))))))))
            refine L_r (r_pf rfl rfl) (L_r (r_ab rfl) (L_nil (W_ret ?_)))
            refine ret1 (v := .bool _) rfl rfl ?_
            first
            | (refine ⟨_, rfl, ⟨fun h => absurd h (by decide), fun h => ?_⟩, Ch.au⟩
               have k := hQ1.1 (hQ.1 h).1
               clear hQ hQ1 hlo hz hx hl hV hb h
               exfalso
               first
               | (rw [k.1] at h15; exact absurd h15 (by decide))
               | exact absurd (h33.symm.trans k.2.2.2) (by decide)
               | (simp [k.1] at h15; done)
               | (simp only [k.2.2.2] at h33; exact absurd h33 (by decide))
               | (simp_all; done)
               | omega)
            | (refine ⟨_, rfl, ⟨fun h => absurd h (by decide), fun h => ?_⟩, Ch.au⟩
               have k := hQ1.1 (hQ.1 h).1
               clear hQ hQ1 hlo hz hx hl hV hb h
               omega)
            | (refine ⟨_, rfl, ?_, Ch.au⟩
               rw [hQ]
               clear hQ hQ1 hlo hz hx hl hV hb
               (try unfold hasC at *)
               simp_all
               try omega)
          ·
           refine L_ps (L_ps (L_ps (L_r (r_pf rfl rfl) (L_r (r_mb rfl) (L_ps (L_ps (L_ps (L_r (r_pf rfl rfl) ?_))))))))
           refine L_r (r_mb rfl) (L_ps (L_ps (L_ps (L_ps (L_r (r_pf rfl rfl) (L_r (r_ab rfl) (L_nil (W_ret ?_))))))))
           refine ret1 (v := .bool _) rfl rfl ?_
           first
           | (refine ⟨_, rfl, ⟨fun h => absurd h (by decide), fun h => ?_⟩, Ch.au⟩
              have k := hQ1.1 (hQ.1 h).1
              clear hQ hQ1 hlo hz hx hl hV hb h
              exfalso
              first
              | (rw [k.1] at h15; exact absurd h15 (by decide))
              | exact absurd (h33.symm.trans k.2.2.2) (by decide)
              | (simp [k.1] at h15; done)
              | (simp only [k.2.2.2] at h33; exact absurd h33 (by decide))
              | (simp_all; done)
              | omega)
           | (refine ⟨_, rfl, ⟨fun h => absurd h (by decide), fun h => ?_⟩, Ch.au⟩
              have k := hQ1.1 (hQ.1 h).1
              clear hQ hQ1 hlo hz hx hl hV hb h
              omega)
           | (refine ⟨_, rfl, ?_, Ch.au⟩
              rw [hQ]
              clear hQ hQ1 hlo hz hx hl hV hb
              (try unfold hasC at *)
              simp_all
              try omega)
         ·
          refine L_ps (L_ps (L_ps (L_r (r_pf rfl rfl) (L_r (r_mb rfl) (L_ps (L_ps (L_ps (L_r (r_pf rfl rfl) ?_))))))))
          refine L_r (r_mb rfl) (L_ps (L_ps (L_ps (L_r (r_pf rfl rfl) (L_r (r_mb rfl) (L_ps (L_ps (L_ps ?_))))))))
          refine L_ps (L_r (r_pf rfl rfl) (L_r (r_ab rfl) (L_nil (W_ret ?_))))
          refine ret1 (v := .bool _) rfl rfl ?_
          first
          | (refine ⟨_, rfl, ⟨fun h => absurd h (by decide), fun h => ?_⟩, Ch.au⟩
             have k := hQ1.1 (hQ.1 h).1
             clear hQ hQ1 hlo hz hx hl hV hb h
             exfalso
             first
             | (rw [k.1] at h15; exact absurd h15 (by decide))
             | exact absurd (h33.symm.trans k.2.2.2) (by decide)
             | (simp [k.1] at h15; done)
             | (simp only [k.2.2.2] at h33; exact absurd h33 (by decide))
             | (simp_all; done)
             | omega)
          | (refine ⟨_, rfl, ⟨fun h => absurd h (by decide), fun h => ?_⟩, Ch.au⟩
             have k := hQ1.1 (hQ.1 h).1
             clear hQ hQ1 hlo hz hx hl hV hb h
             omega)
          | (refine ⟨_, rfl, ?_, Ch.au⟩
             rw [hQ]
             clear hQ hQ1 hlo hz hx hl hV hb
             (try unfold hasC at *)
             simp_all
             try omega)
        ·
         refine L_ps (L_ps (L_ps (L_r (r_pf rfl rfl) (L_r (r_mb rfl) (L_ps (L_ps (L_ps (L_r (r_pf rfl rfl) ?_))))))))
         refine L_r (r_mb rfl) (L_ps (L_ps (L_ps (L_r (r_pf rfl rfl) (L_r (r_mb rfl) (L_ps (L_ps (L_ps ?_))))))))
         refine L_r (r_pf rfl rfl) (L_r (r_mb rfl) (L_ps (L_ps (L_ps (L_ps (L_r (r_pf rfl rfl) (L_r (r_ab rfl) (L_nil ?_))))))))
         refine W_ret ?_
         refine ret1 (v := .bool _) rfl rfl ?_
         first
         | (refine ⟨_, rfl, ⟨fun h => absurd h (by decide), fun h => ?_⟩, Ch.au⟩
            have k := hQ1.1 (hQ.1 h).1
            clear hQ hQ1 hlo hz hx hl hV hb h
            exfalso
            first
            | (rw [k.1] at h15; exact absurd h15 (by decide))
            | exact absurd (h33.symm.trans k.2.2.2) (by decide)
            | (simp [k.1] at h15; done)
            | (simp only [k.2.2.2] at h33; exact absurd h33 (by decide))
            | (simp_all; done)
            | omega)
         | (refine ⟨_, rfl, ⟨fun h => absurd h (by decide), fun h => ?_⟩, Ch.au⟩
            have k := hQ1.1 (hQ.1 h).1
            clear hQ hQ1 hlo hz hx hl hV hb h
            omega)
         | (refine ⟨_, rfl, ?_, Ch.au⟩
            rw [hQ]
            clear hQ hQ1 hlo hz hx hl hV hb
            (try unfold hasC at *)
            simp_all
            try omega)
       ·
        refine L_ps (L_ps (L_ps (L_r (r_pf rfl rfl) (L_r (r_mb rfl) (L_ps (L_ps (L_ps (L_r (r_pf rfl rfl) ?_))))))))
        refine L_r (r_mb rfl) (L_ps (L_ps (L_ps (L_r (r_pf rfl rfl) (L_r (r_mb rfl) (L_ps (L_ps (L_ps ?_))))))))
        refine L_r (r_pf rfl rfl) (L_r (r_mb rfl) (L_ps (L_ps (L_ps (L_r (r_pf rfl rfl) (L_r (r_mb rfl) (L_ps (L_ps ?_))))))))
        refine L_ps (L_ps (L_r (r_pf rfl rfl) (L_r (r_ab rfl) (L_nil (W_ret ?_)))))
        refine ret1 (v := .bool _) rfl rfl ?_
        first
        | (refine ⟨_, rfl, ⟨fun h => absurd h (by decide), fun h => ?_⟩, Ch.au⟩
           have k := hQ1.1 (hQ.1 h).1
           clear hQ hQ1 hlo hz hx hl hV hb h
           exfalso
           first
           | (rw [k.1] at h15; exact absurd h15 (by decide))
           | exact absurd (h33.symm.trans k.2.2.2) (by decide)
           | (simp [k.1] at h15; done)
           | (simp only [k.2.2.2] at h33; exact absurd h33 (by decide))
           | (simp_all; done)
           | omega)
        | (refine ⟨_, rfl, ⟨fun h => absurd h (by decide), fun h => ?_⟩, Ch.au⟩
           have k := hQ1.1 (hQ.1 h).1
           clear hQ hQ1 hlo hz hx hl hV hb h
           omega)
        | (refine ⟨_, rfl, ?_, Ch.au⟩
           rw [hQ]
           clear hQ hQ1 hlo hz hx hl hV hb
           (try unfold hasC at *)
           simp_all
           try omega)
      ·
       refine L_ps (L_r (r_pf rfl rfl) (L_r (r_mb rfl) (L_ps (L_ps (L_ps (L_r (r_pf rfl rfl) (L_r (r_mb rfl) (L_ps ?_))))))))
       refine L_ps (L_ps (L_r (r_pf rfl rfl) (L_r (r_mb rfl) (L_ps (L_ps (L_ps (L_r (r_pf rfl rfl) (L_r (r_mb rfl) ?_))))))))
       refine L_ps (L_ps (L_ps (L_r (r_pf rfl rfl) (L_r (r_mb rfl) (L_ps (L_ps (L_ps (L_r (r_pf rfl rfl) ?_))))))))
       refine L_r (r_mb rfl) (L_ps (L_ps (L_ps (L_ps (L_r (r_pf rfl rfl) (L_r (r_ab rfl) (L_nil (W_ret ?_))))))))
       refine ret1 (v := .bool _) rfl rfl ?_
       first
       | (refine ⟨_, rfl, ⟨fun h => absurd h (by decide), fun h => ?_⟩, Ch.au⟩
          have k := hQ1.1 (hQ.1 h).1
          clear hQ hQ1 hlo hz hx hl hV hb h
          exfalso
          first
          | (rw [k.1] at h15; exact absurd h15 (by decide))
          | exact absurd (h33.symm.trans k.2.2.2) (by decide)
          | (simp [k.1] at h15; done)
          | (simp only [k.2.2.2] at h33; exact absurd h33 (by decide))
          | (simp_all; done)
          | omega)
       | (refine ⟨_, rfl, ⟨fun h => absurd h (by decide), fun h => ?_⟩, Ch.au⟩
          have k := hQ1.1 (hQ.1 h).1
          clear hQ hQ1 hlo hz hx hl hV hb h
          omega)
       | (refine ⟨_, rfl, ?_, Ch.au⟩
          rw [hQ]
          clear hQ hQ1 hlo hz hx hl hV hb
          (try unfold hasC at *)
          simp_all
          try omega)
    ·
     refine L_ps (L_ps (L_ps (L_ps ?_)))
     refine L_g (r_pf rfl rfl) (L_r (r_pf rfl rfl) (L_r (r_ab rfl) (L_nil (W_seq (W_region (L_r (r_ms rfl) ?_))))))
     refine L_call (.plain rfl) rfl rfl (r_call Tryz.func24 rfl rfl rfl (by rfl)) (scont_use _ _ _) ?_
     rintro v49 w24 ⟨rfl, rfl⟩
     refine L_r (r_not rfl) (L_r (r_mb rfl) ?_)
     refine L_caseb (d := 51) rfl (fun h51 => ?_) (fun h51 => ?_)
     ·
      refine L_ps (L_ps (L_ps (L_r (r_pt rfl rfl) (L_r (r_ab rfl) (L_nil (W_seq (W_region (L_r (r_mb rfl) ?_))))))))
      refine L_r (r_mb rfl) (L_ps (L_r (r_pf rfl rfl) (L_r (r_mb rfl) (L_ps (L_ps (L_ps (L_r (r_pf rfl rfl) (L_r (r_mb rfl) ?_))))))))
      refine L_ps (L_ps (L_ps (L_r (r_pf rfl rfl) (L_r (r_mb rfl) (L_ps (L_ps (L_ps (L_r (r_pf rfl rfl) ?_))))))))
      refine L_r (r_mb rfl) (L_ps (L_ps (L_ps (L_r (r_pf rfl rfl) (L_r (r_mb rfl) (L_ps (L_ps (L_ps ?_))))))))
      refine L_r (r_pf rfl rfl) (L_r (r_mb rfl) (L_ps (L_ps (L_ps (L_ps (L_r (r_pf rfl rfl) (L_r (r_ab rfl) (L_nil ?_))))))))
      refine W_ret ?_
      refine ret1 (v := .bool _) rfl rfl ?_
      first
      | (refine ⟨_, rfl, ⟨fun h => absurd h (by decide), fun h => ?_⟩, Ch.au⟩
         have k := hQ1.1 (hQ.1 h).1
         clear hQ hQ1 hlo hz hx hl hV hb h
         exfalso
         first
         | (rw [k.1] at h15; exact absurd h15 (by decide))
         | exact absurd (h33.symm.trans k.2.2.2) (by decide)
         | (simp [k.1] at h15; done)
         | (simp only [k.2.2.2] at h33; exact absurd h33 (by decide))
         | (simp_all; done)
         | omega)
      | (refine ⟨_, rfl, ⟨fun h => absurd h (by decide), fun h => ?_⟩, Ch.au⟩
         have k := hQ1.1 (hQ.1 h).1
         clear hQ hQ1 hlo hz hx hl hV hb h
         omega)
      | (refine ⟨_, rfl, ?_, Ch.au⟩
         rw [hQ]
         clear hQ hQ1 hlo hz hx hl hV hb
         (try unfold hasC at *)
         simp_all
         try omega)
     ·
      refine L_g (r_fieldb Tryz.underlying29 rfl (show _ = some 1 from rfl) rfl rfl (show _ = 8 from rfl)) ?_
      refine L_g (r_lb rfl rfl) ?_
      refine L_call (.yes 3 false rfl rfl) rfl rfl (r_call Tryz.func26 rfl rfl rfl (by rfl)) (class_walk _ _) ?_
      rintro v54 w25 ⟨rfl, c25⟩
      have hz25 := c25.size
      refine L_r (r_pf rfl rfl) (L_r (r_ab rfl) (L_nil (W_seq (W_region (L_r (r_mb rfl) (L_r (r_mb rfl) (L_ps (L_r (r_pf rfl rfl) ?_))))))))
      refine L_r (r_mb rfl) (L_ps (L_ps (L_ps (L_r (r_pf rfl rfl) (L_r (r_mb rfl) (L_ps (L_ps (L_ps ?_))))))))
      refine L_r (r_pf rfl rfl) (L_r (r_mb rfl) (L_ps (L_ps (L_ps (L_r (r_pf rfl rfl) (L_r (r_mb rfl) (L_ps (L_ps ?_))))))))
      refine L_ps (L_r (r_pf rfl rfl) (L_r (r_mb rfl) (L_ps (L_ps (L_ps (L_r (r_pf rfl rfl) (L_r (r_mb rfl) (L_ps ?_))))))))
      refine L_ps (L_ps (L_ps (L_r (r_pf rfl rfl) (L_r (r_ab rfl) (L_nil (W_ret ?_))))))
      refine ret1 (v := .bool _) rfl rfl ?_
      first
      | (refine ⟨_, rfl, ⟨fun h => absurd h (by decide), fun h => ?_⟩, Ch.au⟩
         have k := hQ1.1 (hQ.1 h).1
         clear hQ hQ1 hlo hz hx hl hV hb h
         exfalso
         first
         | (rw [k.1] at h15; exact absurd h15 (by decide))
         | exact absurd (h33.symm.trans k.2.2.2) (by decide)
         | (simp [k.1] at h15; done)
         | (simp only [k.2.2.2] at h33; exact absurd h33 (by decide))
         | (simp_all; done)
         | omega)
      | (refine ⟨_, rfl, ⟨fun h => absurd h (by decide), fun h => ?_⟩, Ch.au⟩
         have k := hQ1.1 (hQ.1 h).1
         clear hQ hQ1 hlo hz hx hl hV hb h
         omega)
      | (refine ⟨_, rfl, ?_, Ch.au⟩
         rw [hQ]
         clear hQ hQ1 hlo hz hx hl hV hb
         (try unfold hasC at *)
         simp_all
         try omega)
  ·
   refine D_g 3 rfl (fun W hW => r_loadrow Tryz.underlying29 rfl rfl (by first | exact hW.1 | exact hW.2) (by first | rfl | assumption)) ?_
   refine D_g 4 rfl (fun W hW => r_loadrow Tryz.underlying29 rfl rfl (by first | exact hW.1 | exact hW.2) (by first | rfl | assumption)) ?_
   refine D_g 5 rfl (fun W hW => r_ms rfl) ?_
   refine D_ev 6 (by kernel_rfl) rfl ?_
   refine L_call (.yes 2 false rfl rfl) rfl rfl (r_call Tryz.func20 rfl rfl rfl (by rfl)) (only_walk x (hasF x.d.kind) _ (hx.nw Ch.au) (hasF_ls x.d.kind)) ?_
   rintro v19 w26 ⟨rfl, c26⟩
   have hz26 := c26.size
   rw [← hz]
   refine L_nil ?_
   refine heldK (by exact ⟨Bk.au, hx.nw Ch.au⟩) (fun hS => ?_)
   refine D_ev 7 (by kernel_rfl) rfl ?_
   refine L_call (.yes 2 false rfl rfl) rfl rfl (r_call Tryz.func19 rfl rfl rfl (by rfl)) (ssame_walk x z _ (hx.nw Ch.au) (by rw [hz]; exact only_ok (hx.nw Ch.au) _) hl (by omega)) ?_
   rintro v20 w27 ⟨bs, rfl, hbs, c27⟩
   have hz27 := c27.size
   refine L_nil ?_
   refine heldK (by exact ⟨Bk.au, hx.nw Ch.au⟩) (fun hS => ?_)
   refine D_g 8 rfl (fun W hW => r_not rfl) ?_
   refine D_t 9 rfl (fun W hW => r_pf rfl rfl) ?_
   refine D_t 10 rfl (fun W hW => r_mb rfl) ?_
   refine D_caseb (d := 23) rfl (fun h23 => ?_) (fun h23 => ?_)
   ·
    refine D_ps 11 rfl ?_
    refine D_ps 12 rfl ?_
    refine D_ps 13 rfl ?_
    refine D_ps 14 rfl ?_
    refine D_t 15 rfl (fun W hW => r_pt rfl rfl) ?_
    refine D_t 16 rfl (fun W hW => r_mb rfl) ?_
    refine D_ps 17 rfl ?_
    refine D_ps 18 rfl ?_
    refine D_ps 19 rfl ?_
    refine D_t 20 rfl (fun W hW => r_pt rfl rfl) ?_
    refine D_done (by kernel_rfl) ?_
    refine W_endF [1, 3] (fun f W => True ∧ (Q1 ∧ Bk W b1 x.row 29 ∧ Nw w0 W)) ?_ ?_
    ·
     refine W_true rfl (W_seq (W_region (L_r (r_ab rfl) (L_nil (W_ret ?_)))))
     refine ret1 (v := .bool _) rfl rfl ?_
     first
     | (refine ⟨_, rfl, ⟨fun h => absurd h (by decide), fun h => ?_⟩, Ch.au⟩
        have k := hQ1.1 (hQ.1 h).1
        clear hQ hQ1 hlo hz hx hl hV hb h
        exfalso
        first
        | (rw [k.1] at h15; exact absurd h15 (by decide))
        | exact absurd (h33.symm.trans k.2.2.2) (by decide)
        | (simp [k.1] at h15; done)
        | (simp only [k.2.2.2] at h33; exact absurd h33 (by decide))
        | (simp_all; done)
        | omega)
     | (refine ⟨_, rfl, ⟨fun h => absurd h (by decide), fun h => ?_⟩, Ch.au⟩
        have k := hQ1.1 (hQ.1 h).1
        clear hQ hQ1 hlo hz hx hl hV hb h
        omega)
     | (refine ⟨_, rfl, ?_, Ch.au⟩
        rw [hQ]
        clear hQ hQ1 hlo hz hx hl hV hb
        (try unfold hasC at *)
        simp_all
        try omega)
    rintro gct33 w28 ⟨-, hCt33⟩
    obtain ⟨hq1, hkb, hnw⟩ := hCt33
    have hzz := hnw.size
    refine W_seq (W_region (L_r (r_ms rfl) ?_))
    refine L_call (.plain rfl) rfl rfl (r_call Tryz.func24 rfl rfl rfl (by rfl)) (scont_use _ _ _) ?_
    rintro v35 w29 ⟨rfl, rfl⟩
    refine L_r (r_not rfl) (L_r (r_mb rfl) ?_)
    refine L_caseb (d := 37) rfl (fun h37 => ?_) (fun h37 => ?_)
    ·
     refine L_ps (L_ps (L_ps (L_ps ?_)))
     refine L_pu ?_
     refine L_pu ?_
     refine L_pu ?_
     refine L_pu (L_ps (L_r (r_pt rfl rfl) (L_r (r_ab rfl) (L_nil (W_seq (W_region (L_r (r_ms rfl) ?_)))))))
     refine L_call (.plain rfl) rfl rfl (r_call Tryz.func24 rfl rfl rfl (by rfl)) (scont_use _ _ _) ?_
     rintro v49 w30 ⟨rfl, rfl⟩
     refine L_r (r_not rfl) (L_r (r_mb rfl) ?_)
     refine L_caseb (d := 51) rfl (fun h51 => ?_) (fun h51 => ?_)
     ·
      refine L_ps (L_ps (L_ps (L_r (r_pt rfl rfl) (L_r (r_ab rfl) (L_nil (W_seq (W_region (L_r (r_mb rfl) ?_))))))))
      refine L_r (r_mb rfl) ?_
      refine L_g (r_mb rfl) (L_r (r_pt rfl rfl) (L_r (r_mb rfl) ?_))
      refine L_g (r_fieldb Tryz.underlying29 rfl (show _ = some 1 from rfl) rfl rfl (show _ = 1 from rfl)) ?_
      refine L_g (r_lb rfl rfl) ?_
      refine L_g (r_geq rfl rfl) (L_r (r_pt rfl rfl) (L_r (r_mb rfl) ?_))
      refine L_case (d := 65) rfl (fun h65 => ?_) (fun h65 => ?_)
      ·
       refine L_g (r_fieldb Tryz.underlying29 rfl (show _ = some 1 from rfl) rfl rfl (show _ = 1 from rfl)) ?_
       refine L_g (r_lb rfl rfl) ?_
       refine L_g (r_leq rfl rfl) (L_r (r_pt rfl rfl) (L_r (r_mb rfl) ?_))
       refine L_case (d := 70) rfl (fun h70 => ?_) (fun h70 => ?_)
       ·
        refine L_g (r_fieldb Tryz.underlying29 rfl (show _ = some 1 from rfl) rfl rfl (show _ = 5 from rfl)) ?_
        refine L_g (r_lb rfl rfl) ?_
        refine L_call (.yes 14 true rfl rfl) rfl rfl (r_call Tryz.func27 rfl rfl rfl (by rfl)) (ssmall_walk _ _) ?_
        rintro v73 w31 ⟨rfl, c31⟩
        have hz31 := c31.size
        refine L_r (r_pt rfl rfl) (L_r (r_mb rfl) ?_)
        refine L_caseb (d := 75) rfl (fun h75 => ?_) (fun h75 => ?_)
        ·
         refine L_g (r_fieldb Tryz.underlying29 rfl (show _ = some 1 from rfl) rfl rfl (show _ = 6 from rfl)) ?_
         refine L_g (r_lb rfl rfl) ?_
         refine L_call (.yes 19 true rfl rfl) rfl rfl (r_call Tryz.func27 rfl rfl rfl (by rfl)) (ssmall_walk _ _) ?_
         rintro v78 w32 ⟨rfl, c32⟩
         have hz32 := c32.size
         refine L_r (r_pt rfl rfl) (L_r (r_mb rfl) ?_)
         refine L_caseb (d := 80) rfl (fun h80 => ?_) (fun h80 => ?_)
         ·
          refine L_g (r_fieldb Tryz.underlying29 rfl (show _ = some 1 from rfl) rfl rfl (show _ = 7 from rfl)) ?_
          refine L_g (r_lb rfl rfl) ?_
          refine L_call (.yes 24 true rfl rfl) rfl rfl (r_call Tryz.func27 rfl rfl rfl (by rfl)) (ssmall_walk _ _) ?_
          rintro v83 w33 ⟨rfl, c33⟩
          have hz33 := c33.size
          refine L_r (r_pt rfl rfl) (L_r (r_mb rfl) ?_)
          refine L_caseb (d := 85) rfl (fun h85 => ?_) (fun h85 => ?_)
          ·
           refine L_g (r_fieldb Tryz.underlying29 rfl (show _ = some 1 from rfl) rfl rfl (show _ = 9 from rfl)) ?_
           refine L_g (r_lb rfl rfl) ?_
           refine L_g (r_lens Tryz.underlying9 rfl) ?_
           refine L_g (r_leq rfl rfl) (L_r (r_pt rfl rfl) (L_r (r_ab rfl) (L_nil (W_ret ?_))))
           refine ret1 (v := .bool _) rfl rfl ?_
           first
           | (refine ⟨_, rfl, ⟨fun h => absurd h (by decide), fun h => ?_⟩, Ch.au⟩
              have k := hQ1.1 (hQ.1 h).1
              clear hQ hQ1 hlo hz hx hl hV hb h
              exfalso
              first
              | (rw [k.1] at h15; exact absurd h15 (by decide))
              | exact absurd (h33.symm.trans k.2.2.2) (by decide)
              | (simp [k.1] at h15; done)
              | (simp only [k.2.2.2] at h33; exact absurd h33 (by decide))
              | (simp_all; done)
              | omega)
           | (refine ⟨_, rfl, ⟨fun h => absurd h (by decide), fun h => ?_⟩, Ch.au⟩
              have k := hQ1.1 (hQ.1 h).1
              clear hQ hQ1 hlo hz hx hl hV hb h
              omega)
           | (refine ⟨_, rfl, ?_, Ch.au⟩
              rw [hQ]
              clear hQ hQ1 hlo hz hx hl hV hb
              (try unfold hasC at *)
              simp_all
              try omega)
          ·
           refine L_ps (L_ps (L_ps (L_ps (L_r (r_pf rfl rfl) (L_r (r_ab rfl) (L_nil (W_ret ?_)))))))
           refine ret1 (v := .bool _) rfl rfl ?_
           first
           | (refine ⟨_, rfl, ⟨fun h => absurd h (by decide), fun h => ?_⟩, Ch.au⟩
              have k := hQ1.1 (hQ.1 h).1
              clear hQ hQ1 hlo hz hx hl hV hb h
              exfalso
              first
              | (rw [k.1] at h15; exact absurd h15 (by decide))
              | exact absurd (h33.symm.trans k.2.2.2) (by decide)
              | (simp [k.1] at h15; done)
              | (simp only [k.2.2.2] at h33; exact absurd h33 (by decide))
              | (simp_all; done)
              | omega)
           | (refine ⟨_, rfl, ⟨fun h => absurd h (by decide), fun h => ?_⟩, Ch.au⟩
              have k := hQ1.1 (hQ.1 h).1
              clear hQ hQ1 hlo hz hx hl hV hb h
              omega)
           | (refine ⟨_, rfl, ?_, Ch.au⟩
              rw [hQ]
              clear hQ hQ1 hlo hz hx hl hV hb
              (try unfold hasC at *)
              simp_all
              try omega)
         ·
          refine L_ps (L_ps (L_ps (L_r (r_pf rfl rfl) (L_r (r_mb rfl) (L_ps (L_ps (L_ps (L_ps ?_))))))))
          refine L_r (r_pf rfl rfl) (L_r (r_ab rfl) (L_nil (W_ret ?_)))
          refine ret1 (v := .bool _) rfl rfl ?_
          first
          | (refine ⟨_, rfl, ⟨fun h => absurd h (by decide), fun h => ?_⟩, Ch.au⟩
             have k := hQ1.1 (hQ.1 h).1
             clear hQ hQ1 hlo hz hx hl hV hb h
             exfalso
             first
             | (rw [k.1] at h15; exact absurd h15 (by decide))
             | exact absurd (h33.symm.trans k.2.2.2) (by decide)
             | (simp [k.1] at h15; done)
             | (simp only [k.2.2.2] at h33; exact absurd h33 (by decide))
             | (simp_all; done)
             | omega)
          | (refine ⟨_, rfl, ⟨fun h => absurd h (by decide), fun h => ?_⟩, Ch.au⟩
             have k := hQ1.1 (hQ.1 h).1
             clear hQ hQ1 hlo hz hx hl hV hb h
             omega)
          | (refine ⟨_, rfl, ?_, Ch.au⟩
             rw [hQ]
             clear hQ hQ1 hlo hz hx hl hV hb
             (try unfold hasC at *)
             simp_all
             try omega)
        ·
         refine L_ps (L_ps (L_ps (L_r (r_pf rfl rfl) (L_r (r_mb rfl) (L_ps (L_ps (L_ps (L_r (r_pf rfl rfl) ?_))))))))
         refine L_r (r_mb rfl) (L_ps (L_ps (L_ps (L_ps (L_r (r_pf rfl rfl) (L_r (r_ab rfl) (L_nil (W_ret ?_))))))))
         refine ret1 (v := .bool _) rfl rfl ?_
         first
         | (refine ⟨_, rfl, ⟨fun h => absurd h (by decide), fun h => ?_⟩, Ch.au⟩
            have k := hQ1.1 (hQ.1 h).1
            clear hQ hQ1 hlo hz hx hl hV hb h
            exfalso
            first
            | (rw [k.1] at h15; exact absurd h15 (by decide))
            | exact absurd (h33.symm.trans k.2.2.2) (by decide)
            | (simp [k.1] at h15; done)
            | (simp only [k.2.2.2] at h33; exact absurd h33 (by decide))
            | (simp_all; done)
            | omega)
         | (refine ⟨_, rfl, ⟨fun h => absurd h (by decide), fun h => ?_⟩, Ch.au⟩
            have k := hQ1.1 (hQ.1 h).1
            clear hQ hQ1 hlo hz hx hl hV hb h
            omega)
         | (refine ⟨_, rfl, ?_, Ch.au⟩
            rw [hQ]
            clear hQ hQ1 hlo hz hx hl hV hb
            (try unfold hasC at *)
            simp_all
            try omega)
       ·
        refine L_ps (L_ps (L_ps (L_r (r_pf rfl rfl) (L_r (r_mb rfl) (L_ps (L_ps (L_ps (L_r (r_pf rfl rfl) ?_))))))))
        refine L_r (r_mb rfl) (L_ps (L_ps (L_ps (L_r (r_pf rfl rfl) (L_r (r_mb rfl) (L_ps (L_ps (L_ps ?_))))))))
        refine L_ps (L_r (r_pf rfl rfl) (L_r (r_ab rfl) (L_nil (W_ret ?_))))
        refine ret1 (v := .bool _) rfl rfl ?_
        first
        | (refine ⟨_, rfl, ⟨fun h => absurd h (by decide), fun h => ?_⟩, Ch.au⟩
           have k := hQ1.1 (hQ.1 h).1
           clear hQ hQ1 hlo hz hx hl hV hb h
           exfalso
           first
           | (rw [k.1] at h15; exact absurd h15 (by decide))
           | exact absurd (h33.symm.trans k.2.2.2) (by decide)
           | (simp [k.1] at h15; done)
           | (simp only [k.2.2.2] at h33; exact absurd h33 (by decide))
           | (simp_all; done)
           | omega)
        | (refine ⟨_, rfl, ⟨fun h => absurd h (by decide), fun h => ?_⟩, Ch.au⟩
           have k := hQ1.1 (hQ.1 h).1
           clear hQ hQ1 hlo hz hx hl hV hb h
           omega)
        | (refine ⟨_, rfl, ?_, Ch.au⟩
           rw [hQ]
           clear hQ hQ1 hlo hz hx hl hV hb
           (try unfold hasC at *)
           simp_all
           try omega)
      ·
       refine L_ps (L_ps (L_ps (L_r (r_pf rfl rfl) (L_r (r_mb rfl) (L_ps (L_ps (L_ps (L_r (r_pf rfl rfl) ?_))))))))
       refine L_r (r_mb rfl) (L_ps (L_ps (L_ps (L_r (r_pf rfl rfl) (L_r (r_mb rfl) (L_ps (L_ps (L_ps ?_))))))))
       refine L_r (r_pf rfl rfl) (L_r (r_mb rfl) (L_ps (L_ps (L_ps (L_ps (L_r (r_pf rfl rfl) (L_r (r_ab rfl) (L_nil ?_))))))))
       refine W_ret ?_
       refine ret1 (v := .bool _) rfl rfl ?_
       first
       | (refine ⟨_, rfl, ⟨fun h => absurd h (by decide), fun h => ?_⟩, Ch.au⟩
          have k := hQ1.1 (hQ.1 h).1
          clear hQ hQ1 hlo hz hx hl hV hb h
          exfalso
          first
          | (rw [k.1] at h15; exact absurd h15 (by decide))
          | exact absurd (h33.symm.trans k.2.2.2) (by decide)
          | (simp [k.1] at h15; done)
          | (simp only [k.2.2.2] at h33; exact absurd h33 (by decide))
          | (simp_all; done)
          | omega)
       | (refine ⟨_, rfl, ⟨fun h => absurd h (by decide), fun h => ?_⟩, Ch.au⟩
          have k := hQ1.1 (hQ.1 h).1
          clear hQ hQ1 hlo hz hx hl hV hb h
          omega)
       | (refine ⟨_, rfl, ?_, Ch.au⟩
          rw [hQ]
          clear hQ hQ1 hlo hz hx hl hV hb
          (try unfold hasC at *)
          simp_all
          try omega)
     ·
      refine L_g (r_fieldb Tryz.underlying29 rfl (show _ = some 1 from rfl) rfl rfl (show _ = 8 from rfl)) ?_
      refine L_g (r_lb rfl rfl) ?_
      refine L_call (.yes 3 false rfl rfl) rfl rfl (r_call Tryz.func26 rfl rfl rfl (by rfl)) (class_walk _ _) ?_
      rintro v54 w34 ⟨rfl, c34⟩
      have hz34 := c34.size
      refine L_r (r_pf rfl rfl) (L_r (r_ab rfl) (L_nil (W_seq (W_region (L_r (r_mb rfl) (L_r (r_mb rfl) ?_))))))
      refine L_g (r_mb rfl) (L_r (r_pt rfl rfl) (L_r (r_mb rfl) ?_))
      refine L_caseb (d := 60) rfl (fun h60 => ?_) (fun h60 => ?_)
      ·
       refine L_g (r_fieldb Tryz.underlying29 rfl (show _ = some 1 from rfl) rfl rfl (show _ = 1 from rfl)) ?_
       refine L_g (r_lb rfl rfl) ?_
       refine L_g (r_geq rfl rfl) (L_r (r_pt rfl rfl) (L_r (r_mb rfl) ?_))
       refine L_case (d := 65) rfl (fun h65 => ?_) (fun h65 => ?_)
       ·
        refine L_g (r_fieldb Tryz.underlying29 rfl (show _ = some 1 from rfl) rfl rfl (show _ = 1 from rfl)) ?_
        refine L_g (r_lb rfl rfl) ?_
        refine L_g (r_leq rfl rfl) (L_r (r_pt rfl rfl) (L_r (r_mb rfl) ?_))
        refine L_case (d := 70) rfl (fun h70 => ?_) (fun h70 => ?_)
        ·
         refine L_g (r_fieldb Tryz.underlying29 rfl (show _ = some 1 from rfl) rfl rfl (show _ = 5 from rfl)) ?_
         refine L_g (r_lb rfl rfl) ?_
         refine L_call (.yes 14 true rfl rfl) rfl rfl (r_call Tryz.func27 rfl rfl rfl (by rfl)) (ssmall_walk _ _) ?_
         rintro v73 w35 ⟨rfl, c35⟩
         have hz35 := c35.size
         refine L_r (r_pt rfl rfl) (L_r (r_mb rfl) ?_)
         refine L_caseb (d := 75) rfl (fun h75 => ?_) (fun h75 => ?_)
         ·
          refine L_g (r_fieldb Tryz.underlying29 rfl (show _ = some 1 from rfl) rfl rfl (show _ = 6 from rfl)) ?_
          refine L_g (r_lb rfl rfl) ?_
          refine L_call (.yes 19 true rfl rfl) rfl rfl (r_call Tryz.func27 rfl rfl rfl (by rfl)) (ssmall_walk _ _) ?_
          rintro v78 w36 ⟨rfl, c36⟩
          have hz36 := c36.size
          refine L_r (r_pt rfl rfl) (L_r (r_mb rfl) ?_)
          refine L_caseb (d := 80) rfl (fun h80 => ?_) (fun h80 => ?_)
          ·
           refine L_g (r_fieldb Tryz.underlying29 rfl (show _ = some 1 from rfl) rfl rfl (show _ = 7 from rfl)) ?_
           refine L_g (r_lb rfl rfl) ?_
           refine L_call (.yes 24 true rfl rfl) rfl rfl (r_call Tryz.func27 rfl rfl rfl (by rfl)) (ssmall_walk _ _) ?_
           rintro v83 w37 ⟨rfl, c37⟩
           have hz37 := c37.size
           refine L_r (r_pt rfl rfl) (L_r (r_mb rfl) ?_)
           refine L_caseb (d := 85) rfl (fun h85 => ?_) (fun h85 => ?_)
           ·
            refine L_g (r_fieldb Tryz.underlying29 rfl (show _ = some 1 from rfl) rfl rfl (show _ = 9 from rfl)) ?_
            refine L_g (r_lb rfl rfl) ?_
            refine L_g (r_lens Tryz.underlying9 rfl) ?_
            refine L_g (r_leq rfl rfl) (L_r (r_pt rfl rfl) (L_r (r_ab rfl) (L_nil (W_ret ?_))))
            refine ret1 (v := .bool _) rfl rfl ?_
            first
            | (refine ⟨_, rfl, ⟨fun h => absurd h (by decide), fun h => ?_⟩, Ch.au⟩
               have k := hQ1.1 (hQ.1 h).1
               clear hQ hQ1 hlo hz hx hl hV hb h
               exfalso
               first
               | (rw [k.1] at h15; exact absurd h15 (by decide))
               | exact absurd (h33.symm.trans k.2.2.2) (by decide)
               | (simp [k.1] at h15; done)
               | (simp only [k.2.2.2] at h33; exact absurd h33 (by decide))
               | (simp_all; done)
               | omega)
            | (refine ⟨_, rfl, ⟨fun h => absurd h (by decide), fun h => ?_⟩, Ch.au⟩
               have k := hQ1.1 (hQ.1 h).1
               clear hQ hQ1 hlo hz hx hl hV hb h
               omega)
            | (refine ⟨_, rfl, ?_, Ch.au⟩
               rw [hQ]
               clear hQ hQ1 hlo hz hx hl hV hb
               (try unfold hasC at *)
               simp_all
               try omega)
           ·
            refine L_ps (L_ps (L_ps (L_ps (L_r (r_pf rfl rfl) (L_r (r_ab rfl) (L_nil (W_ret ?_)))))))
            refine ret1 (v := .bool _) rfl rfl ?_
            first
            | (refine ⟨_, rfl, ⟨fun h => absurd h (by decide), fun h => ?_⟩, Ch.au⟩
               have k := hQ1.1 (hQ.1 h).1
               clear hQ hQ1 hlo hz hx hl hV hb h
               exfalso
               first
               | (rw [k.1] at h15; exact absurd h15 (by decide))
               | exact absurd (h33.symm.trans k.2.2.2) (by decide)
               | (simp [k.1] at h15; done)
               | (simp only [k.2.2.2] at h33; exact absurd h33 (by decide))
               | (simp_all; done)
               | omega)
            | (refine ⟨_, rfl, ⟨fun h => absurd h (by decide), fun h => ?_⟩, Ch.au⟩
               have k := hQ1.1 (hQ.1 h).1
               clear hQ hQ1 hlo hz hx hl hV hb h
               omega)
            | (refine ⟨_, rfl, ?_, Ch.au⟩
               rw [hQ]
               clear hQ hQ1 hlo hz hx hl hV hb
               (try unfold hasC at *)
               simp_all
               try omega)
          ·
           refine L_ps (L_ps (L_ps (L_r (r_pf rfl rfl) (L_r (r_mb rfl) (L_ps (L_ps (L_ps (L_ps ?_))))))))
           refine L_r (r_pf rfl rfl) (L_r (r_ab rfl) (L_nil (W_ret ?_)))
           refine ret1 (v := .bool _) rfl rfl ?_
           first
           | (refine ⟨_, rfl, ⟨fun h => absurd h (by decide), fun h => ?_⟩, Ch.au⟩
              have k := hQ1.1 (hQ.1 h).1
              clear hQ hQ1 hlo hz hx hl hV hb h
              exfalso
              first
              | (rw [k.1] at h15; exact absurd h15 (by decide))
              | exact absurd (h33.symm.trans k.2.2.2) (by decide)
              | (simp [k.1] at h15; done)
              | (simp only [k.2.2.2] at h33; exact absurd h33 (by decide))
              | (simp_all; done)
              | omega)
           | (refine ⟨_, rfl, ⟨fun h => absurd h (by decide), fun h => ?_⟩, Ch.au⟩
              have k := hQ1.1 (hQ.1 h).1
              clear hQ hQ1 hlo hz hx hl hV hb h
              omega)
           | (refine ⟨_, rfl, ?_, Ch.au⟩
              rw [hQ]
              clear hQ hQ1 hlo hz hx hl hV hb
              (try unfold hasC at *)
              simp_all
              try omega)
         ·
          refine L_ps (L_ps (L_ps (L_r (r_pf rfl rfl) (L_r (r_mb rfl) (L_ps (L_ps (L_ps (L_r (r_pf rfl rfl) ?_))))))))
          refine L_r (r_mb rfl) (L_ps (L_ps (L_ps (L_ps (L_r (r_pf rfl rfl) (L_r (r_ab rfl) (L_nil (W_ret ?_))))))))
          refine ret1 (v := .bool _) rfl rfl ?_
          first
          | (refine ⟨_, rfl, ⟨fun h => absurd h (by decide), fun h => ?_⟩, Ch.au⟩
             have k := hQ1.1 (hQ.1 h).1
             clear hQ hQ1 hlo hz hx hl hV hb h
             exfalso
             first
             | (rw [k.1] at h15; exact absurd h15 (by decide))
             | exact absurd (h33.symm.trans k.2.2.2) (by decide)
             | (simp [k.1] at h15; done)
             | (simp only [k.2.2.2] at h33; exact absurd h33 (by decide))
             | (simp_all; done)
             | omega)
          | (refine ⟨_, rfl, ⟨fun h => absurd h (by decide), fun h => ?_⟩, Ch.au⟩
             have k := hQ1.1 (hQ.1 h).1
             clear hQ hQ1 hlo hz hx hl hV hb h
             omega)
          | (refine ⟨_, rfl, ?_, Ch.au⟩
             rw [hQ]
             clear hQ hQ1 hlo hz hx hl hV hb
             (try unfold hasC at *)
             simp_all
             try omega)
        ·
         refine L_ps (L_ps (L_ps (L_r (r_pf rfl rfl) (L_r (r_mb rfl) (L_ps (L_ps (L_ps (L_r (r_pf rfl rfl) ?_))))))))
         refine L_r (r_mb rfl) (L_ps (L_ps (L_ps (L_r (r_pf rfl rfl) (L_r (r_mb rfl) (L_ps (L_ps (L_ps ?_))))))))
         refine L_ps (L_r (r_pf rfl rfl) (L_r (r_ab rfl) (L_nil (W_ret ?_))))
         refine ret1 (v := .bool _) rfl rfl ?_
         first
         | (refine ⟨_, rfl, ⟨fun h => absurd h (by decide), fun h => ?_⟩, Ch.au⟩
            have k := hQ1.1 (hQ.1 h).1
            clear hQ hQ1 hlo hz hx hl hV hb h
            exfalso
            first
            | (rw [k.1] at h15; exact absurd h15 (by decide))
            | exact absurd (h33.symm.trans k.2.2.2) (by decide)
            | (simp [k.1] at h15; done)
            | (simp only [k.2.2.2] at h33; exact absurd h33 (by decide))
            | (simp_all; done)
            | omega)
         | (refine ⟨_, rfl, ⟨fun h => absurd h (by decide), fun h => ?_⟩, Ch.au⟩
            have k := hQ1.1 (hQ.1 h).1
            clear hQ hQ1 hlo hz hx hl hV hb h
            omega)
         | (refine ⟨_, rfl, ?_, Ch.au⟩
            rw [hQ]
            clear hQ hQ1 hlo hz hx hl hV hb
            (try unfold hasC at *)
            simp_all
            try omega)
       ·
        refine L_ps (L_ps (L_ps (L_r (r_pf rfl rfl) (L_r (r_mb rfl) (L_ps (L_ps (L_ps (L_r (r_pf rfl rfl) ?_))))))))
        refine L_r (r_mb rfl) (L_ps (L_ps (L_ps (L_r (r_pf rfl rfl) (L_r (r_mb rfl) (L_ps (L_ps (L_ps ?_))))))))
        refine L_r (r_pf rfl rfl) (L_r (r_mb rfl) (L_ps (L_ps (L_ps (L_ps (L_r (r_pf rfl rfl) (L_r (r_ab rfl) (L_nil ?_))))))))
        refine W_ret ?_
        refine ret1 (v := .bool _) rfl rfl ?_
        first
        | (refine ⟨_, rfl, ⟨fun h => absurd h (by decide), fun h => ?_⟩, Ch.au⟩
           have k := hQ1.1 (hQ.1 h).1
           clear hQ hQ1 hlo hz hx hl hV hb h
           exfalso
           first
           | (rw [k.1] at h15; exact absurd h15 (by decide))
           | exact absurd (h33.symm.trans k.2.2.2) (by decide)
           | (simp [k.1] at h15; done)
           | (simp only [k.2.2.2] at h33; exact absurd h33 (by decide))
           | (simp_all; done)
           | omega)
        | (refine ⟨_, rfl, ⟨fun h => absurd h (by decide), fun h => ?_⟩, Ch.au⟩
           have k := hQ1.1 (hQ.1 h).1
           clear hQ hQ1 hlo hz hx hl hV hb h
           omega)
        | (refine ⟨_, rfl, ?_, Ch.au⟩
           rw [hQ]
           clear hQ hQ1 hlo hz hx hl hV hb
           (try unfold hasC at *)
           simp_all
           try omega)
      ·
       refine L_ps (L_ps (L_ps (L_r (r_pf rfl rfl) (L_r (r_mb rfl) (L_ps (L_ps (L_ps (L_r (r_pf rfl rfl) ?_))))))))
       refine L_r (r_mb rfl) (L_ps (L_ps (L_ps (L_r (r_pf rfl rfl) (L_r (r_mb rfl) (L_ps (L_ps (L_ps ?_))))))))
       refine L_r (r_pf rfl rfl) (L_r (r_mb rfl) (L_ps (L_ps (L_ps (L_r (r_pf rfl rfl) (L_r (r_mb rfl) (L_ps (L_ps ?_))))))))
       refine L_ps (L_ps (L_r (r_pf rfl rfl) (L_r (r_ab rfl) (L_nil (W_ret ?_)))))
       refine ret1 (v := .bool _) rfl rfl ?_
       first
       | (refine ⟨_, rfl, ⟨fun h => absurd h (by decide), fun h => ?_⟩, Ch.au⟩
          have k := hQ1.1 (hQ.1 h).1
          clear hQ hQ1 hlo hz hx hl hV hb h
          exfalso
          first
          | (rw [k.1] at h15; exact absurd h15 (by decide))
          | exact absurd (h33.symm.trans k.2.2.2) (by decide)
          | (simp [k.1] at h15; done)
          | (simp only [k.2.2.2] at h33; exact absurd h33 (by decide))
          | (simp_all; done)
          | omega)
       | (refine ⟨_, rfl, ⟨fun h => absurd h (by decide), fun h => ?_⟩, Ch.au⟩
          have k := hQ1.1 (hQ.1 h).1
          clear hQ hQ1 hlo hz hx hl hV hb h
          omega)
       | (refine ⟨_, rfl, ?_, Ch.au⟩
          rw [hQ]
          clear hQ hQ1 hlo hz hx hl hV hb
          (try unfold hasC at *)
          simp_all
          try omega)
    ·
     refine L_g (r_fieldb Tryz.underlying29 rfl (show _ = some 1 from rfl) rfl rfl (show _ = 3 from rfl)) ?_
     refine L_g (r_lb rfl rfl) ?_
     refine L_call (.yes 3 false rfl rfl) rfl rfl (r_call Tryz.func25 rfl rfl rfl (by rfl)) (name_walk _ _) ?_
     rintro v40 w38 ⟨rfl, c38⟩
     have hz38 := c38.size
     refine L_g (r_mb rfl) ?_
     refine L_caseb (d := 41) rfl (fun h41 => ?_) (fun h41 => ?_)
     ·
      refine L_g (r_fieldb Tryz.underlying29 rfl (show _ = some 1 from rfl) rfl rfl (show _ = 3 from rfl)) ?_
      refine L_g (r_lb rfl rfl) ?_
      refine L_call (.yes 7 true rfl rfl) rfl rfl (r_call Tryz.func26 rfl rfl rfl (by rfl)) (class_walk _ _) ?_
      rintro v44 w39 ⟨rfl, c39⟩
      have hz39 := c39.size
      refine L_g (r_not rfl) ?_
      refine L_g (r_pt rfl rfl) (L_r (r_pf rfl rfl) (L_r (r_ab rfl) (L_nil (W_seq (W_region (L_r (r_ms rfl) ?_))))))
      refine L_call (.plain rfl) rfl rfl (r_call Tryz.func24 rfl rfl rfl (by rfl)) (scont_use _ _ _) ?_
      rintro v49 w40 ⟨rfl, rfl⟩
      refine L_r (r_not rfl) (L_r (r_mb rfl) ?_)
      refine L_caseb (d := 51) rfl (fun h51 => ?_) (fun h51 => ?_)
      ·
       refine L_ps (L_ps (L_ps (L_r (r_pt rfl rfl) (L_r (r_ab rfl) (L_nil (W_seq (W_region (L_r (r_mb rfl) ?_))))))))
       refine L_r (r_mb rfl) ?_
       refine L_caseb (d := 57) rfl (fun h57 => ?_) (fun h57 => ?_)
       ·
        refine L_g (r_mb rfl) (L_r (r_pt rfl rfl) (L_r (r_mb rfl) ?_))
        refine L_g (r_fieldb Tryz.underlying29 rfl (show _ = some 1 from rfl) rfl rfl (show _ = 1 from rfl)) ?_
        refine L_g (r_lb rfl rfl) ?_
        refine L_g (r_geq rfl rfl) (L_r (r_pt rfl rfl) (L_r (r_mb rfl) ?_))
        refine L_case (d := 65) rfl (fun h65 => ?_) (fun h65 => ?_)
        ·
         refine L_g (r_fieldb Tryz.underlying29 rfl (show _ = some 1 from rfl) rfl rfl (show _ = 1 from rfl)) ?_
         refine L_g (r_lb rfl rfl) ?_
         refine L_g (r_leq rfl rfl) (L_r (r_pt rfl rfl) (L_r (r_mb rfl) ?_))
         refine L_case (d := 70) rfl (fun h70 => ?_) (fun h70 => ?_)
         ·
          refine L_g (r_fieldb Tryz.underlying29 rfl (show _ = some 1 from rfl) rfl rfl (show _ = 5 from rfl)) ?_
          refine L_g (r_lb rfl rfl) ?_
          refine L_call (.yes 14 true rfl rfl) rfl rfl (r_call Tryz.func27 rfl rfl rfl (by rfl)) (ssmall_walk _ _) ?_
          rintro v73 w41 ⟨rfl, c41⟩
          have hz41 := c41.size
          refine L_r (r_pt rfl rfl) (L_r (r_mb rfl) ?_)
          refine L_caseb (d := 75) rfl (fun h75 => ?_) (fun h75 => ?_)
          ·
           refine L_g (r_fieldb Tryz.underlying29 rfl (show _ = some 1 from rfl) rfl rfl (show _ = 6 from rfl)) ?_
           refine L_g (r_lb rfl rfl) ?_
           refine L_call (.yes 19 true rfl rfl) rfl rfl (r_call Tryz.func27 rfl rfl rfl (by rfl)) (ssmall_walk _ _) ?_
           rintro v78 w42 ⟨rfl, c42⟩
           have hz42 := c42.size
           refine L_r (r_pt rfl rfl) (L_r (r_mb rfl) ?_)
           refine L_caseb (d := 80) rfl (fun h80 => ?_) (fun h80 => ?_)
           ·
            refine L_g (r_fieldb Tryz.underlying29 rfl (show _ = some 1 from rfl) rfl rfl (show _ = 7 from rfl)) ?_
            refine L_g (r_lb rfl rfl) ?_
            refine L_call (.yes 24 true rfl rfl) rfl rfl (r_call Tryz.func27 rfl rfl rfl (by rfl)) (ssmall_walk _ _) ?_
            rintro v83 w43 ⟨rfl, c43⟩
            have hz43 := c43.size
            refine L_r (r_pt rfl rfl) (L_r (r_mb rfl) ?_)
            refine L_caseb (d := 85) rfl (fun h85 => ?_) (fun h85 => ?_)
            ·
             refine L_g (r_fieldb Tryz.underlying29 rfl (show _ = some 1 from rfl) rfl rfl (show _ = 9 from rfl)) ?_
             refine L_g (r_lb rfl rfl) ?_
             refine L_g (r_lens Tryz.underlying9 rfl) ?_
             refine L_g (r_leq rfl rfl) (L_r (r_pt rfl rfl) (L_r (r_ab rfl) (L_nil (W_ret ?_))))
             refine ret1 (v := .bool _) rfl rfl ?_
             first
             | (refine ⟨_, rfl, ⟨fun h => absurd h (by decide), fun h => ?_⟩, Ch.au⟩
                have k := hQ1.1 (hQ.1 h).1
                clear hQ hQ1 hlo hz hx hl hV hb h
                exfalso
                first
                | (rw [k.1] at h15; exact absurd h15 (by decide))
                | exact absurd (h33.symm.trans k.2.2.2) (by decide)
                | (simp [k.1] at h15; done)
                | (simp only [k.2.2.2] at h33; exact absurd h33 (by decide))
                | (simp_all; done)
                | omega)
             | (refine ⟨_, rfl, ⟨fun h => absurd h (by decide), fun h => ?_⟩, Ch.au⟩
                have k := hQ1.1 (hQ.1 h).1
                clear hQ hQ1 hlo hz hx hl hV hb h
                omega)
             | (refine ⟨_, rfl, ?_, Ch.au⟩
                rw [hQ]
                clear hQ hQ1 hlo hz hx hl hV hb
                (try unfold hasC at *)
                simp_all
                try omega)
            ·
             refine L_ps (L_ps (L_ps (L_ps (L_r (r_pf rfl rfl) (L_r (r_ab rfl) (L_nil (W_ret ?_)))))))
             refine ret1 (v := .bool _) rfl rfl ?_
             first
             | (refine ⟨_, rfl, ⟨fun h => absurd h (by decide), fun h => ?_⟩, Ch.au⟩
                have k := hQ1.1 (hQ.1 h).1
                clear hQ hQ1 hlo hz hx hl hV hb h
                exfalso
                first
                | (rw [k.1] at h15; exact absurd h15 (by decide))
                | exact absurd (h33.symm.trans k.2.2.2) (by decide)
                | (simp [k.1] at h15; done)
                | (simp only [k.2.2.2] at h33; exact absurd h33 (by decide))
                | (simp_all; done)
                | omega)
             | (refine ⟨_, rfl, ⟨fun h => absurd h (by decide), fun h => ?_⟩, Ch.au⟩
                have k := hQ1.1 (hQ.1 h).1
                clear hQ hQ1 hlo hz hx hl hV hb h
                omega)
             | (refine ⟨_, rfl, ?_, Ch.au⟩
                rw [hQ]
                clear hQ hQ1 hlo hz hx hl hV hb
                (try unfold hasC at *)
                simp_all
                try omega)
           ·
            refine L_ps (L_ps (L_ps (L_r (r_pf rfl rfl) (L_r (r_mb rfl) (L_ps (L_ps (L_ps (L_ps ?_))))))))
            refine L_r (r_pf rfl rfl) (L_r (r_ab rfl) (L_nil (W_ret ?_)))
            refine ret1 (v := .bool _) rfl rfl ?_
            first
            | (refine ⟨_, rfl, ⟨fun h => absurd h (by decide), fun h => ?_⟩, Ch.au⟩
               have k := hQ1.1 (hQ.1 h).1
               clear hQ hQ1 hlo hz hx hl hV hb h
               exfalso
               first
               | (rw [k.1] at h15; exact absurd h15 (by decide))
               | exact absurd (h33.symm.trans k.2.2.2) (by decide)
               | (simp [k.1] at h15; done)
               | (simp only [k.2.2.2] at h33; exact absurd h33 (by decide))
               | (simp_all; done)
               | omega)
            | (refine ⟨_, rfl, ⟨fun h => absurd h (by decide), fun h => ?_⟩, Ch.au⟩
               have k := hQ1.1 (hQ.1 h).1
               clear hQ hQ1 hlo hz hx hl hV hb h
               omega)
            | (refine ⟨_, rfl, ?_, Ch.au⟩
               rw [hQ]
               clear hQ hQ1 hlo hz hx hl hV hb
               (try unfold hasC at *)
               simp_all
               try omega)
          ·
           refine L_ps (L_ps (L_ps (L_r (r_pf rfl rfl) (L_r (r_mb rfl) (L_ps (L_ps (L_ps (L_r (r_pf rfl rfl) ?_))))))))
           refine L_r (r_mb rfl) (L_ps (L_ps (L_ps (L_ps (L_r (r_pf rfl rfl) (L_r (r_ab rfl) (L_nil (W_ret ?_))))))))
           refine ret1 (v := .bool _) rfl rfl ?_
           first
           | (refine ⟨_, rfl, ⟨fun h => absurd h (by decide), fun h => ?_⟩, Ch.au⟩
              have k := hQ1.1 (hQ.1 h).1
              clear hQ hQ1 hlo hz hx hl hV hb h
              exfalso
              first
              | (rw [k.1] at h15; exact absurd h15 (by decide))
              | exact absurd (h33.symm.trans k.2.2.2) (by decide)
              | (simp [k.1] at h15; done)
              | (simp only [k.2.2.2] at h33; exact absurd h33 (by decide))
              | (simp_all; done)
              | omega)
           | (refine ⟨_, rfl, ⟨fun h => absurd h (by decide), fun h => ?_⟩, Ch.au⟩
              have k := hQ1.1 (hQ.1 h).1
              clear hQ hQ1 hlo hz hx hl hV hb h
              omega)
           | (refine ⟨_, rfl, ?_, Ch.au⟩
              rw [hQ]
              clear hQ hQ1 hlo hz hx hl hV hb
              (try unfold hasC at *)
              simp_all
              try omega)
         ·
          refine L_ps (L_ps (L_ps (L_r (r_pf rfl rfl) (L_r (r_mb rfl) (L_ps (L_ps (L_ps (L_r (r_pf rfl rfl) ?_))))))))
          refine L_r (r_mb rfl) (L_ps (L_ps (L_ps (L_r (r_pf rfl rfl) (L_r (r_mb rfl) (L_ps (L_ps (L_ps ?_))))))))
          refine L_ps (L_r (r_pf rfl rfl) (L_r (r_ab rfl) (L_nil (W_ret ?_))))
          refine ret1 (v := .bool _) rfl rfl ?_
          first
          | (refine ⟨_, rfl, ⟨fun h => absurd h (by decide), fun h => ?_⟩, Ch.au⟩
             have k := hQ1.1 (hQ.1 h).1
             clear hQ hQ1 hlo hz hx hl hV hb h
             exfalso
             first
             | (rw [k.1] at h15; exact absurd h15 (by decide))
             | exact absurd (h33.symm.trans k.2.2.2) (by decide)
             | (simp [k.1] at h15; done)
             | (simp only [k.2.2.2] at h33; exact absurd h33 (by decide))
             | (simp_all; done)
             | omega)
          | (refine ⟨_, rfl, ⟨fun h => absurd h (by decide), fun h => ?_⟩, Ch.au⟩
             have k := hQ1.1 (hQ.1 h).1
             clear hQ hQ1 hlo hz hx hl hV hb h
             omega)
          | (refine ⟨_, rfl, ?_, Ch.au⟩
             rw [hQ]
             clear hQ hQ1 hlo hz hx hl hV hb
             (try unfold hasC at *)
             simp_all
             try omega)
        ·
         refine L_ps (L_ps (L_ps (L_r (r_pf rfl rfl) (L_r (r_mb rfl) (L_ps (L_ps (L_ps (L_r (r_pf rfl rfl) ?_))))))))
         refine L_r (r_mb rfl) (L_ps (L_ps (L_ps (L_r (r_pf rfl rfl) (L_r (r_mb rfl) (L_ps (L_ps (L_ps ?_))))))))
         refine L_r (r_pf rfl rfl) (L_r (r_mb rfl) (L_ps (L_ps (L_ps (L_ps (L_r (r_pf rfl rfl) (L_r (r_ab rfl) (L_nil ?_))))))))
         refine W_ret ?_
         refine ret1 (v := .bool _) rfl rfl ?_
         first
         | (refine ⟨_, rfl, ⟨fun h => absurd h (by decide), fun h => ?_⟩, Ch.au⟩
            have k := hQ1.1 (hQ.1 h).1
            clear hQ hQ1 hlo hz hx hl hV hb h
            exfalso
            first
            | (rw [k.1] at h15; exact absurd h15 (by decide))
            | exact absurd (h33.symm.trans k.2.2.2) (by decide)
            | (simp [k.1] at h15; done)
            | (simp only [k.2.2.2] at h33; exact absurd h33 (by decide))
            | (simp_all; done)
            | omega)
         | (refine ⟨_, rfl, ⟨fun h => absurd h (by decide), fun h => ?_⟩, Ch.au⟩
            have k := hQ1.1 (hQ.1 h).1
            clear hQ hQ1 hlo hz hx hl hV hb h
            omega)
         | (refine ⟨_, rfl, ?_, Ch.au⟩
            rw [hQ]
            clear hQ hQ1 hlo hz hx hl hV hb
            (try unfold hasC at *)
            simp_all
            try omega)
       ·
        refine L_ps (L_r (r_pf rfl rfl) (L_r (r_mb rfl) (L_ps (L_ps (L_ps (L_r (r_pf rfl rfl) (L_r (r_mb rfl) (L_ps ?_))))))))
        refine L_ps (L_ps (L_r (r_pf rfl rfl) (L_r (r_mb rfl) (L_ps (L_ps (L_ps (L_r (r_pf rfl rfl) (L_r (r_mb rfl) ?_))))))))
        refine L_ps (L_ps (L_ps (L_r (r_pf rfl rfl) (L_r (r_mb rfl) (L_ps (L_ps (L_ps (L_r (r_pf rfl rfl) ?_))))))))
        refine L_r (r_mb rfl) (L_ps (L_ps (L_ps (L_ps (L_r (r_pf rfl rfl) (L_r (r_ab rfl) (L_nil (W_ret ?_))))))))
        refine ret1 (v := .bool _) rfl rfl ?_
        first
        | (refine ⟨_, rfl, ⟨fun h => absurd h (by decide), fun h => ?_⟩, Ch.au⟩
           have k := hQ1.1 (hQ.1 h).1
           clear hQ hQ1 hlo hz hx hl hV hb h
           exfalso
           first
           | (rw [k.1] at h15; exact absurd h15 (by decide))
           | exact absurd (h33.symm.trans k.2.2.2) (by decide)
           | (simp [k.1] at h15; done)
           | (simp only [k.2.2.2] at h33; exact absurd h33 (by decide))
           | (simp_all; done)
           | omega)
        | (refine ⟨_, rfl, ⟨fun h => absurd h (by decide), fun h => ?_⟩, Ch.au⟩
           have k := hQ1.1 (hQ.1 h).1
           clear hQ hQ1 hlo hz hx hl hV hb h
           omega)
        | (refine ⟨_, rfl, ?_, Ch.au⟩
           rw [hQ]
           clear hQ hQ1 hlo hz hx hl hV hb
           (try unfold hasC at *)
           simp_all
           try omega)
      ·
       refine L_g (r_fieldb Tryz.underlying29 rfl (show _ = some 1 from rfl) rfl rfl (show _ = 8 from rfl)) ?_
       refine L_g (r_lb rfl rfl) ?_
       refine L_call (.yes 3 false rfl rfl) rfl rfl (r_call Tryz.func26 rfl rfl rfl (by rfl)) (class_walk _ _) ?_
       rintro v54 w44 ⟨rfl, c44⟩
       have hz44 := c44.size
       refine L_r (r_pf rfl rfl) (L_r (r_ab rfl) (L_nil (W_seq (W_region (L_r (r_mb rfl) (L_r (r_mb rfl) ?_))))))
       refine L_caseb (d := 57) rfl (fun h57 => ?_) (fun h57 => ?_)
       ·
        refine L_g (r_mb rfl) (L_r (r_pt rfl rfl) (L_r (r_mb rfl) ?_))
        refine L_caseb (d := 60) rfl (fun h60 => ?_) (fun h60 => ?_)
        ·
         refine L_g (r_fieldb Tryz.underlying29 rfl (show _ = some 1 from rfl) rfl rfl (show _ = 1 from rfl)) ?_
         refine L_g (r_lb rfl rfl) ?_
         refine L_g (r_geq rfl rfl) (L_r (r_pt rfl rfl) (L_r (r_mb rfl) ?_))
         refine L_case (d := 65) rfl (fun h65 => ?_) (fun h65 => ?_)
         ·
          refine L_g (r_fieldb Tryz.underlying29 rfl (show _ = some 1 from rfl) rfl rfl (show _ = 1 from rfl)) ?_
          refine L_g (r_lb rfl rfl) ?_
          refine L_g (r_leq rfl rfl) (L_r (r_pt rfl rfl) (L_r (r_mb rfl) ?_))
          refine L_case (d := 70) rfl (fun h70 => ?_) (fun h70 => ?_)
          ·
           refine L_g (r_fieldb Tryz.underlying29 rfl (show _ = some 1 from rfl) rfl rfl (show _ = 5 from rfl)) ?_
           refine L_g (r_lb rfl rfl) ?_
           refine L_call (.yes 14 true rfl rfl) rfl rfl (r_call Tryz.func27 rfl rfl rfl (by rfl)) (ssmall_walk _ _) ?_
           rintro v73 w45 ⟨rfl, c45⟩
           have hz45 := c45.size
           refine L_r (r_pt rfl rfl) (L_r (r_mb rfl) ?_)
           refine L_caseb (d := 75) rfl (fun h75 => ?_) (fun h75 => ?_)
           ·
            refine L_g (r_fieldb Tryz.underlying29 rfl (show _ = some 1 from rfl) rfl rfl (show _ = 6 from rfl)) ?_
            refine L_g (r_lb rfl rfl) ?_
            refine L_call (.yes 19 true rfl rfl) rfl rfl (r_call Tryz.func27 rfl rfl rfl (by rfl)) (ssmall_walk _ _) ?_
            rintro v78 w46 ⟨rfl, c46⟩
            have hz46 := c46.size
            refine L_r (r_pt rfl rfl) (L_r (r_mb rfl) ?_)
            refine L_caseb (d := 80) rfl (fun h80 => ?_) (fun h80 => ?_)
            ·
             refine L_g (r_fieldb Tryz.underlying29 rfl (show _ = some 1 from rfl) rfl rfl (show _ = 7 from rfl)) ?_
             refine L_g (r_lb rfl rfl) ?_
             refine L_call (.yes 24 true rfl rfl) rfl rfl (r_call Tryz.func27 rfl rfl rfl (by rfl)) (ssmall_walk _ _) ?_
             rintro v83 w47 ⟨rfl, c47⟩
             have hz47 := c47.size
             refine L_r (r_pt rfl rfl) (L_r (r_mb rfl) ?_)
             refine L_caseb (d := 85) rfl (fun h85 => ?_) (fun h85 => ?_)
             ·
              refine L_g (r_fieldb Tryz.underlying29 rfl (show _ = some 1 from rfl) rfl rfl (show _ = 9 from rfl)) ?_
              refine L_g (r_lb rfl rfl) ?_
              refine L_g (r_lens Tryz.underlying9 rfl) ?_
              refine L_g (r_leq rfl rfl) (L_r (r_pt rfl rfl) (L_r (r_ab rfl) (L_nil (W_ret ?_))))
              refine ret1 (v := .bool _) rfl rfl ?_
              first
              | (refine ⟨_, rfl, ⟨fun h => absurd h (by decide), fun h => ?_⟩, Ch.au⟩
                 have k := hQ1.1 (hQ.1 h).1
                 clear hQ hQ1 hlo hz hx hl hV hb h
                 exfalso
                 first
                 | (rw [k.1] at h15; exact absurd h15 (by decide))
                 | exact absurd (h33.symm.trans k.2.2.2) (by decide)
                 | (simp [k.1] at h15; done)
                 | (simp only [k.2.2.2] at h33; exact absurd h33 (by decide))
                 | (simp_all; done)
                 | omega)
              | (refine ⟨_, rfl, ⟨fun h => absurd h (by decide), fun h => ?_⟩, Ch.au⟩
                 have k := hQ1.1 (hQ.1 h).1
                 clear hQ hQ1 hlo hz hx hl hV hb h
                 omega)
              | (refine ⟨_, rfl, ?_, Ch.au⟩
                 rw [hQ]
                 clear hQ hQ1 hlo hz hx hl hV hb
                 (try unfold hasC at *)
                 simp_all
                 try omega)
             ·
              refine L_ps (L_ps (L_ps (L_ps (L_r (r_pf rfl rfl) (L_r (r_ab rfl) (L_nil (W_ret ?_)))))))
              refine ret1 (v := .bool _) rfl rfl ?_
              first
              | (refine ⟨_, rfl, ⟨fun h => absurd h (by decide), fun h => ?_⟩, Ch.au⟩
                 have k := hQ1.1 (hQ.1 h).1
                 clear hQ hQ1 hlo hz hx hl hV hb h
                 exfalso
                 first
                 | (rw [k.1] at h15; exact absurd h15 (by decide))
                 | exact absurd (h33.symm.trans k.2.2.2) (by decide)
                 | (simp [k.1] at h15; done)
                 | (simp only [k.2.2.2] at h33; exact absurd h33 (by decide))
                 | (simp_all; done)
                 | omega)
              | (refine ⟨_, rfl, ⟨fun h => absurd h (by decide), fun h => ?_⟩, Ch.au⟩
                 have k := hQ1.1 (hQ.1 h).1
                 clear hQ hQ1 hlo hz hx hl hV hb h
                 omega)
              | (refine ⟨_, rfl, ?_, Ch.au⟩
                 rw [hQ]
                 clear hQ hQ1 hlo hz hx hl hV hb
                 (try unfold hasC at *)
                 simp_all
                 try omega)
            ·
             refine L_ps (L_ps (L_ps (L_r (r_pf rfl rfl) (L_r (r_mb rfl) (L_ps (L_ps (L_ps (L_ps ?_))))))))
             refine L_r (r_pf rfl rfl) (L_r (r_ab rfl) (L_nil (W_ret ?_)))
             refine ret1 (v := .bool _) rfl rfl ?_
             first
             | (refine ⟨_, rfl, ⟨fun h => absurd h (by decide), fun h => ?_⟩, Ch.au⟩
                have k := hQ1.1 (hQ.1 h).1
                clear hQ hQ1 hlo hz hx hl hV hb h
                exfalso
                first
                | (rw [k.1] at h15; exact absurd h15 (by decide))
                | exact absurd (h33.symm.trans k.2.2.2) (by decide)
                | (simp [k.1] at h15; done)
                | (simp only [k.2.2.2] at h33; exact absurd h33 (by decide))
                | (simp_all; done)
                | omega)
             | (refine ⟨_, rfl, ⟨fun h => absurd h (by decide), fun h => ?_⟩, Ch.au⟩
                have k := hQ1.1 (hQ.1 h).1
                clear hQ hQ1 hlo hz hx hl hV hb h
                omega)
             | (refine ⟨_, rfl, ?_, Ch.au⟩
                rw [hQ]
                clear hQ hQ1 hlo hz hx hl hV hb
                (try unfold hasC at *)
                simp_all
                try omega)
           ·
            refine L_ps (L_ps (L_ps (L_r (r_pf rfl rfl) (L_r (r_mb rfl) (L_ps (L_ps (L_ps (L_r (r_pf rfl rfl) ?_))))))))
            refine L_r (r_mb rfl) (L_ps (L_ps (L_ps (L_ps (L_r (r_pf rfl rfl) (L_r (r_ab rfl) (L_nil (W_ret ?_))))))))
            refine ret1 (v := .bool _) rfl rfl ?_
            first
            | (refine ⟨_, rfl, ⟨fun h => absurd h (by decide), fun h => ?_⟩, Ch.au⟩
               have k := hQ1.1 (hQ.1 h).1
               clear hQ hQ1 hlo hz hx hl hV hb h
               exfalso
               first
               | (rw [k.1] at h15; exact absurd h15 (by decide))
               | exact absurd (h33.symm.trans k.2.2.2) (by decide)
               | (simp [k.1] at h15; done)
               | (simp only [k.2.2.2] at h33; exact absurd h33 (by decide))
               | (simp_all; done)
               | omega)
            | (refine ⟨_, rfl, ⟨fun h => absurd h (by decide), fun h => ?_⟩, Ch.au⟩
               have k := hQ1.1 (hQ.1 h).1
               clear hQ hQ1 hlo hz hx hl hV hb h
               omega)
            | (refine ⟨_, rfl, ?_, Ch.au⟩
               rw [hQ]
               clear hQ hQ1 hlo hz hx hl hV hb
               (try unfold hasC at *)
               simp_all
               try omega)
          ·
           refine L_ps (L_ps (L_ps (L_r (r_pf rfl rfl) (L_r (r_mb rfl) (L_ps (L_ps (L_ps (L_r (r_pf rfl rfl) ?_))))))))
           refine L_r (r_mb rfl) (L_ps (L_ps (L_ps (L_r (r_pf rfl rfl) (L_r (r_mb rfl) (L_ps (L_ps (L_ps ?_))))))))
           refine L_ps (L_r (r_pf rfl rfl) (L_r (r_ab rfl) (L_nil (W_ret ?_))))
           refine ret1 (v := .bool _) rfl rfl ?_
           first
           | (refine ⟨_, rfl, ⟨fun h => absurd h (by decide), fun h => ?_⟩, Ch.au⟩
              have k := hQ1.1 (hQ.1 h).1
              clear hQ hQ1 hlo hz hx hl hV hb h
              exfalso
              first
              | (rw [k.1] at h15; exact absurd h15 (by decide))
              | exact absurd (h33.symm.trans k.2.2.2) (by decide)
              | (simp [k.1] at h15; done)
              | (simp only [k.2.2.2] at h33; exact absurd h33 (by decide))
              | (simp_all; done)
              | omega)
           | (refine ⟨_, rfl, ⟨fun h => absurd h (by decide), fun h => ?_⟩, Ch.au⟩
              have k := hQ1.1 (hQ.1 h).1
              clear hQ hQ1 hlo hz hx hl hV hb h
              omega)
           | (refine ⟨_, rfl, ?_, Ch.au⟩
              rw [hQ]
              clear hQ hQ1 hlo hz hx hl hV hb
              (try unfold hasC at *)
              simp_all
              try omega)
         ·
          refine L_ps (L_ps (L_ps (L_r (r_pf rfl rfl) (L_r (r_mb rfl) (L_ps (L_ps (L_ps (L_r (r_pf rfl rfl) ?_))))))))
          refine L_r (r_mb rfl) (L_ps (L_ps (L_ps (L_r (r_pf rfl rfl) (L_r (r_mb rfl) (L_ps (L_ps (L_ps ?_))))))))
          refine L_r (r_pf rfl rfl) (L_r (r_mb rfl) (L_ps (L_ps (L_ps (L_ps (L_r (r_pf rfl rfl) (L_r (r_ab rfl) (L_nil ?_))))))))
          refine W_ret ?_
          refine ret1 (v := .bool _) rfl rfl ?_
          first
          | (refine ⟨_, rfl, ⟨fun h => absurd h (by decide), fun h => ?_⟩, Ch.au⟩
             have k := hQ1.1 (hQ.1 h).1
             clear hQ hQ1 hlo hz hx hl hV hb h
             exfalso
             first
             | (rw [k.1] at h15; exact absurd h15 (by decide))
             | exact absurd (h33.symm.trans k.2.2.2) (by decide)
             | (simp [k.1] at h15; done)
             | (simp only [k.2.2.2] at h33; exact absurd h33 (by decide))
             | (simp_all; done)
             | omega)
          | (refine ⟨_, rfl, ⟨fun h => absurd h (by decide), fun h => ?_⟩, Ch.au⟩
             have k := hQ1.1 (hQ.1 h).1
             clear hQ hQ1 hlo hz hx hl hV hb h
             omega)
          | (refine ⟨_, rfl, ?_, Ch.au⟩
             rw [hQ]
             clear hQ hQ1 hlo hz hx hl hV hb
             (try unfold hasC at *)
             simp_all
             try omega)
        ·
         refine L_ps (L_ps (L_ps (L_r (r_pf rfl rfl) (L_r (r_mb rfl) (L_ps (L_ps (L_ps (L_r (r_pf rfl rfl) ?_))))))))
         refine L_r (r_mb rfl) (L_ps (L_ps (L_ps (L_r (r_pf rfl rfl) (L_r (r_mb rfl) (L_ps (L_ps (L_ps ?_))))))))
         refine L_r (r_pf rfl rfl) (L_r (r_mb rfl) (L_ps (L_ps (L_ps (L_r (r_pf rfl rfl) (L_r (r_mb rfl) (L_ps (L_ps ?_))))))))
         refine L_ps (L_ps (L_r (r_pf rfl rfl) (L_r (r_ab rfl) (L_nil (W_ret ?_)))))
         refine ret1 (v := .bool _) rfl rfl ?_
         first
         | (refine ⟨_, rfl, ⟨fun h => absurd h (by decide), fun h => ?_⟩, Ch.au⟩
            have k := hQ1.1 (hQ.1 h).1
            clear hQ hQ1 hlo hz hx hl hV hb h
            exfalso
            first
            | (rw [k.1] at h15; exact absurd h15 (by decide))
            | exact absurd (h33.symm.trans k.2.2.2) (by decide)
            | (simp [k.1] at h15; done)
            | (simp only [k.2.2.2] at h33; exact absurd h33 (by decide))
            | (simp_all; done)
            | omega)
         | (refine ⟨_, rfl, ⟨fun h => absurd h (by decide), fun h => ?_⟩, Ch.au⟩
            have k := hQ1.1 (hQ.1 h).1
            clear hQ hQ1 hlo hz hx hl hV hb h
            omega)
         | (refine ⟨_, rfl, ?_, Ch.au⟩
            rw [hQ]
            clear hQ hQ1 hlo hz hx hl hV hb
            (try unfold hasC at *)
            simp_all
            try omega)
       ·
        refine L_ps (L_r (r_pf rfl rfl) (L_r (r_mb rfl) (L_ps (L_ps (L_ps (L_r (r_pf rfl rfl) (L_r (r_mb rfl) (L_ps ?_))))))))
        refine L_ps (L_ps (L_r (r_pf rfl rfl) (L_r (r_mb rfl) (L_ps (L_ps (L_ps (L_r (r_pf rfl rfl) (L_r (r_mb rfl) ?_))))))))
        refine L_ps (L_ps (L_ps (L_r (r_pf rfl rfl) (L_r (r_mb rfl) (L_ps (L_ps (L_ps (L_r (r_pf rfl rfl) ?_))))))))
        refine L_r (r_mb rfl) (L_ps (L_ps (L_ps (L_ps (L_r (r_pf rfl rfl) (L_r (r_ab rfl) (L_nil (W_ret ?_))))))))
        refine ret1 (v := .bool _) rfl rfl ?_
        first
        | (refine ⟨_, rfl, ⟨fun h => absurd h (by decide), fun h => ?_⟩, Ch.au⟩
           have k := hQ1.1 (hQ.1 h).1
           clear hQ hQ1 hlo hz hx hl hV hb h
           exfalso
           first
           | (rw [k.1] at h15; exact absurd h15 (by decide))
           | exact absurd (h33.symm.trans k.2.2.2) (by decide)
           | (simp [k.1] at h15; done)
           | (simp only [k.2.2.2] at h33; exact absurd h33 (by decide))
           | (simp_all; done)
           | omega)
        | (refine ⟨_, rfl, ⟨fun h => absurd h (by decide), fun h => ?_⟩, Ch.au⟩
           have k := hQ1.1 (hQ.1 h).1
           clear hQ hQ1 hlo hz hx hl hV hb h
           omega)
        | (refine ⟨_, rfl, ?_, Ch.au⟩
           rw [hQ]
           clear hQ hQ1 hlo hz hx hl hV hb
           (try unfold hasC at *)
           simp_all
           try omega)
     ·
      refine L_ps (L_ps (L_ps (L_ps ?_)))
      refine L_g (r_pf rfl rfl) (L_r (r_pf rfl rfl) (L_r (r_ab rfl) (L_nil (W_seq (W_region (L_r (r_ms rfl) ?_))))))
      refine L_call (.plain rfl) rfl rfl (r_call Tryz.func24 rfl rfl rfl (by rfl)) (scont_use _ _ _) ?_
      rintro v49 w48 ⟨rfl, rfl⟩
      refine L_r (r_not rfl) (L_r (r_mb rfl) ?_)
      refine L_caseb (d := 51) rfl (fun h51 => ?_) (fun h51 => ?_)
      ·
       refine L_ps (L_ps (L_ps (L_r (r_pt rfl rfl) (L_r (r_ab rfl) (L_nil (W_seq (W_region (L_r (r_mb rfl) ?_))))))))
       refine L_r (r_mb rfl) (L_ps (L_r (r_pf rfl rfl) (L_r (r_mb rfl) (L_ps (L_ps (L_ps (L_r (r_pf rfl rfl) (L_r (r_mb rfl) ?_))))))))
       refine L_ps (L_ps (L_ps (L_r (r_pf rfl rfl) (L_r (r_mb rfl) (L_ps (L_ps (L_ps (L_r (r_pf rfl rfl) ?_))))))))
       refine L_r (r_mb rfl) (L_ps (L_ps (L_ps (L_r (r_pf rfl rfl) (L_r (r_mb rfl) (L_ps (L_ps (L_ps ?_))))))))
       refine L_r (r_pf rfl rfl) (L_r (r_mb rfl) (L_ps (L_ps (L_ps (L_ps (L_r (r_pf rfl rfl) (L_r (r_ab rfl) (L_nil ?_))))))))
       refine W_ret ?_
       refine ret1 (v := .bool _) rfl rfl ?_
       first
       | (refine ⟨_, rfl, ⟨fun h => absurd h (by decide), fun h => ?_⟩, Ch.au⟩
          have k := hQ1.1 (hQ.1 h).1
          clear hQ hQ1 hlo hz hx hl hV hb h
          exfalso
          first
          | (rw [k.1] at h15; exact absurd h15 (by decide))
          | exact absurd (h33.symm.trans k.2.2.2) (by decide)
          | (simp [k.1] at h15; done)
          | (simp only [k.2.2.2] at h33; exact absurd h33 (by decide))
          | (simp_all; done)
          | omega)
       | (refine ⟨_, rfl, ⟨fun h => absurd h (by decide), fun h => ?_⟩, Ch.au⟩
          have k := hQ1.1 (hQ.1 h).1
          clear hQ hQ1 hlo hz hx hl hV hb h
          omega)
       | (refine ⟨_, rfl, ?_, Ch.au⟩
          rw [hQ]
          clear hQ hQ1 hlo hz hx hl hV hb
          (try unfold hasC at *)
          simp_all
          try omega)
      ·
       refine L_g (r_fieldb Tryz.underlying29 rfl (show _ = some 1 from rfl) rfl rfl (show _ = 8 from rfl)) ?_
       refine L_g (r_lb rfl rfl) ?_
       refine L_call (.yes 3 false rfl rfl) rfl rfl (r_call Tryz.func26 rfl rfl rfl (by rfl)) (class_walk _ _) ?_
       rintro v54 w49 ⟨rfl, c49⟩
       have hz49 := c49.size
       refine L_r (r_pf rfl rfl) (L_r (r_ab rfl) (L_nil (W_seq (W_region (L_r (r_mb rfl) (L_r (r_mb rfl) (L_ps (L_r (r_pf rfl rfl) ?_))))))))
       refine L_r (r_mb rfl) (L_ps (L_ps (L_ps (L_r (r_pf rfl rfl) (L_r (r_mb rfl) (L_ps (L_ps (L_ps ?_))))))))
       refine L_r (r_pf rfl rfl) (L_r (r_mb rfl) (L_ps (L_ps (L_ps (L_r (r_pf rfl rfl) (L_r (r_mb rfl) (L_ps (L_ps ?_))))))))
       refine L_ps (L_r (r_pf rfl rfl) (L_r (r_mb rfl) (L_ps (L_ps (L_ps (L_r (r_pf rfl rfl) (L_r (r_mb rfl) (L_ps ?_))))))))
       refine L_ps (L_ps (L_ps (L_r (r_pf rfl rfl) (L_r (r_ab rfl) (L_nil (W_ret ?_))))))
       refine ret1 (v := .bool _) rfl rfl ?_
       first
       | (refine ⟨_, rfl, ⟨fun h => absurd h (by decide), fun h => ?_⟩, Ch.au⟩
          have k := hQ1.1 (hQ.1 h).1
          clear hQ hQ1 hlo hz hx hl hV hb h
          exfalso
          first
          | (rw [k.1] at h15; exact absurd h15 (by decide))
          | exact absurd (h33.symm.trans k.2.2.2) (by decide)
          | (simp [k.1] at h15; done)
          | (simp only [k.2.2.2] at h33; exact absurd h33 (by decide))
          | (simp_all; done)
          | omega)
       | (refine ⟨_, rfl, ⟨fun h => absurd h (by decide), fun h => ?_⟩, Ch.au⟩
          have k := hQ1.1 (hQ.1 h).1
          clear hQ hQ1 hlo hz hx hl hV hb h
          omega)
       | (refine ⟨_, rfl, ?_, Ch.au⟩
          rw [hQ]
          clear hQ hQ1 hlo hz hx hl hV hb
          (try unfold hasC at *)
          simp_all
          try omega)
   ·
    refine D_g 11 rfl (fun W hW => r_fieldb Tryz.underlying29 rfl (show _ = some 1 from rfl) rfl rfl (show _ = 4 from rfl)) ?_
    refine D_g 12 rfl (fun W hW => r_loadb rfl rfl (by first | exact hW.1 | exact hW.2) (by first | assumption | (conv => lhs; simp only [List.getElem?_toArray, List.getElem?_cons_succ, List.getElem?_cons_zero]))) ?_
    refine D_g 13 rfl (fun W hW => r_lenSl Tryz.underlying27 (by conv => lhs; whnf) (by first | exact hW.1 | exact hW.2)) ?_
    refine D_g 14 rfl (fun W hW => r_gtr rfl rfl) ?_
    refine D_t 15 rfl (fun W hW => r_pf rfl rfl) ?_
    refine D_t 16 rfl (fun W hW => r_mb rfl) ?_
    refine D_case (d := 29) rfl (fun h29 => ?_) (fun h29 => ?_)
    ·
     refine D_ps 17 rfl ?_
     refine D_ps 18 rfl ?_
     refine D_ps 19 rfl ?_
     refine D_t 20 rfl (fun W hW => r_pt rfl rfl) ?_
     refine D_done (by kernel_rfl) ?_
     refine W_endF [1, 3] (fun f W => True ∧ (Q1 ∧ Bk W b1 x.row 29 ∧ Nw w0 W)) ?_ ?_
     ·
      refine W_true rfl (W_seq (W_region (L_r (r_ab rfl) (L_nil (W_ret ?_)))))
      refine ret1 (v := .bool _) rfl rfl ?_
      first
      | (refine ⟨_, rfl, ⟨fun h => absurd h (by decide), fun h => ?_⟩, Ch.au⟩
         have k := hQ1.1 (hQ.1 h).1
         clear hQ hQ1 hlo hz hx hl hV hb h
         exfalso
         first
         | (rw [k.1] at h15; exact absurd h15 (by decide))
         | exact absurd (h33.symm.trans k.2.2.2) (by decide)
         | (simp [k.1] at h15; done)
         | (simp only [k.2.2.2] at h33; exact absurd h33 (by decide))
         | (simp_all; done)
         | omega)
      | (refine ⟨_, rfl, ⟨fun h => absurd h (by decide), fun h => ?_⟩, Ch.au⟩
         have k := hQ1.1 (hQ.1 h).1
         clear hQ hQ1 hlo hz hx hl hV hb h
         omega)
      | (refine ⟨_, rfl, ?_, Ch.au⟩
         rw [hQ]
         clear hQ hQ1 hlo hz hx hl hV hb
         (try unfold hasC at *)
         simp_all
         try omega)
     rintro gct33 w50 ⟨-, hCt33⟩
     obtain ⟨hq1, hkb, hnw⟩ := hCt33
     have hzz := hnw.size
     refine W_seq (W_region (L_r (r_ms rfl) ?_))
     refine L_call (.plain rfl) rfl rfl (r_call Tryz.func24 rfl rfl rfl (by rfl)) (scont_use _ _ _) ?_
     rintro v35 w51 ⟨rfl, rfl⟩
     refine L_r (r_not rfl) (L_r (r_mb rfl) ?_)
     refine L_caseb (d := 37) rfl (fun h37 => ?_) (fun h37 => ?_)
     ·
      refine L_ps (L_ps (L_ps (L_ps ?_)))
      refine L_pu ?_
      refine L_pu ?_
      refine L_pu ?_
      refine L_pu (L_ps (L_r (r_pt rfl rfl) (L_r (r_ab rfl) (L_nil (W_seq (W_region (L_r (r_ms rfl) ?_)))))))
      refine L_call (.plain rfl) rfl rfl (r_call Tryz.func24 rfl rfl rfl (by rfl)) (scont_use _ _ _) ?_
      rintro v49 w52 ⟨rfl, rfl⟩
      refine L_r (r_not rfl) (L_r (r_mb rfl) ?_)
      refine L_caseb (d := 51) rfl (fun h51 => ?_) (fun h51 => ?_)
      ·
       refine L_ps (L_ps (L_ps (L_r (r_pt rfl rfl) (L_r (r_ab rfl) (L_nil (W_seq (W_region (L_r (r_mb rfl) ?_))))))))
       refine L_r (r_mb rfl) ?_
       refine L_g (r_mb rfl) (L_r (r_pt rfl rfl) (L_r (r_mb rfl) ?_))
       refine L_g (r_fieldb Tryz.underlying29 rfl (show _ = some 1 from rfl) rfl rfl (show _ = 1 from rfl)) ?_
       refine L_g (r_lb rfl rfl) ?_
       refine L_g (r_geq rfl rfl) (L_r (r_pt rfl rfl) (L_r (r_mb rfl) ?_))
       refine L_case (d := 65) rfl (fun h65 => ?_) (fun h65 => ?_)
       ·
        refine L_g (r_fieldb Tryz.underlying29 rfl (show _ = some 1 from rfl) rfl rfl (show _ = 1 from rfl)) ?_
        refine L_g (r_lb rfl rfl) ?_
        refine L_g (r_leq rfl rfl) (L_r (r_pt rfl rfl) (L_r (r_mb rfl) ?_))
        refine L_case (d := 70) rfl (fun h70 => ?_) (fun h70 => ?_)
        ·
         refine L_g (r_fieldb Tryz.underlying29 rfl (show _ = some 1 from rfl) rfl rfl (show _ = 5 from rfl)) ?_
         refine L_g (r_lb rfl rfl) ?_
         refine L_call (.yes 14 true rfl rfl) rfl rfl (r_call Tryz.func27 rfl rfl rfl (by rfl)) (ssmall_walk _ _) ?_
         rintro v73 w53 ⟨rfl, c53⟩
         have hz53 := c53.size
         refine L_r (r_pt rfl rfl) (L_r (r_mb rfl) ?_)
         refine L_caseb (d := 75) rfl (fun h75 => ?_) (fun h75 => ?_)
         ·
          refine L_g (r_fieldb Tryz.underlying29 rfl (show _ = some 1 from rfl) rfl rfl (show _ = 6 from rfl)) ?_
          refine L_g (r_lb rfl rfl) ?_
          refine L_call (.yes 19 true rfl rfl) rfl rfl (r_call Tryz.func27 rfl rfl rfl (by rfl)) (ssmall_walk _ _) ?_
          rintro v78 w54 ⟨rfl, c54⟩
          have hz54 := c54.size
          refine L_r (r_pt rfl rfl) (L_r (r_mb rfl) ?_)
          refine L_caseb (d := 80) rfl (fun h80 => ?_) (fun h80 => ?_)
          ·
           refine L_g (r_fieldb Tryz.underlying29 rfl (show _ = some 1 from rfl) rfl rfl (show _ = 7 from rfl)) ?_
           refine L_g (r_lb rfl rfl) ?_
           refine L_call (.yes 24 true rfl rfl) rfl rfl (r_call Tryz.func27 rfl rfl rfl (by rfl)) (ssmall_walk _ _) ?_
           rintro v83 w55 ⟨rfl, c55⟩
           have hz55 := c55.size
           refine L_r (r_pt rfl rfl) (L_r (r_mb rfl) ?_)
           refine L_caseb (d := 85) rfl (fun h85 => ?_) (fun h85 => ?_)
           ·
            refine L_g (r_fieldb Tryz.underlying29 rfl (show _ = some 1 from rfl) rfl rfl (show _ = 9 from rfl)) ?_
            refine L_g (r_lb rfl rfl) ?_
            refine L_g (r_lens Tryz.underlying9 rfl) ?_
            refine L_g (r_leq rfl rfl) (L_r (r_pt rfl rfl) (L_r (r_ab rfl) (L_nil (W_ret ?_))))
            refine ret1 (v := .bool _) rfl rfl ?_
            first
            | (refine ⟨_, rfl, ⟨fun h => absurd h (by decide), fun h => ?_⟩, Ch.au⟩
               have k := hQ1.1 (hQ.1 h).1
               clear hQ hQ1 hlo hz hx hl hV hb h
               exfalso
               first
               | (rw [k.1] at h15; exact absurd h15 (by decide))
               | exact absurd (h33.symm.trans k.2.2.2) (by decide)
               | (simp [k.1] at h15; done)
               | (simp only [k.2.2.2] at h33; exact absurd h33 (by decide))
               | (simp_all; done)
               | omega)
            | (refine ⟨_, rfl, ⟨fun h => absurd h (by decide), fun h => ?_⟩, Ch.au⟩
               have k := hQ1.1 (hQ.1 h).1
               clear hQ hQ1 hlo hz hx hl hV hb h
               omega)
            | (refine ⟨_, rfl, ?_, Ch.au⟩
               rw [hQ]
               clear hQ hQ1 hlo hz hx hl hV hb
               (try unfold hasC at *)
               simp_all
               try omega)
           ·
            refine L_ps (L_ps (L_ps (L_ps (L_r (r_pf rfl rfl) (L_r (r_ab rfl) (L_nil (W_ret ?_)))))))
            refine ret1 (v := .bool _) rfl rfl ?_
            first
            | (refine ⟨_, rfl, ⟨fun h => absurd h (by decide), fun h => ?_⟩, Ch.au⟩
               have k := hQ1.1 (hQ.1 h).1
               clear hQ hQ1 hlo hz hx hl hV hb h
               exfalso
               first
               | (rw [k.1] at h15; exact absurd h15 (by decide))
               | exact absurd (h33.symm.trans k.2.2.2) (by decide)
               | (simp [k.1] at h15; done)
               | (simp only [k.2.2.2] at h33; exact absurd h33 (by decide))
               | (simp_all; done)
               | omega)
            | (refine ⟨_, rfl, ⟨fun h => absurd h (by decide), fun h => ?_⟩, Ch.au⟩
               have k := hQ1.1 (hQ.1 h).1
               clear hQ hQ1 hlo hz hx hl hV hb h
               omega)
            | (refine ⟨_, rfl, ?_, Ch.au⟩
               rw [hQ]
               clear hQ hQ1 hlo hz hx hl hV hb
               (try unfold hasC at *)
               simp_all
               try omega)
          ·
           refine L_ps (L_ps (L_ps (L_r (r_pf rfl rfl) (L_r (r_mb rfl) (L_ps (L_ps (L_ps (L_ps ?_))))))))
           refine L_r (r_pf rfl rfl) (L_r (r_ab rfl) (L_nil (W_ret ?_)))
           refine ret1 (v := .bool _) rfl rfl ?_
           first
           | (refine ⟨_, rfl, ⟨fun h => absurd h (by decide), fun h => ?_⟩, Ch.au⟩
              have k := hQ1.1 (hQ.1 h).1
              clear hQ hQ1 hlo hz hx hl hV hb h
              exfalso
              first
              | (rw [k.1] at h15; exact absurd h15 (by decide))
              | exact absurd (h33.symm.trans k.2.2.2) (by decide)
              | (simp [k.1] at h15; done)
              | (simp only [k.2.2.2] at h33; exact absurd h33 (by decide))
              | (simp_all; done)
              | omega)
           | (refine ⟨_, rfl, ⟨fun h => absurd h (by decide), fun h => ?_⟩, Ch.au⟩
              have k := hQ1.1 (hQ.1 h).1
              clear hQ hQ1 hlo hz hx hl hV hb h
              omega)
           | (refine ⟨_, rfl, ?_, Ch.au⟩
              rw [hQ]
              clear hQ hQ1 hlo hz hx hl hV hb
              (try unfold hasC at *)
              simp_all
              try omega)
         ·
          refine L_ps (L_ps (L_ps (L_r (r_pf rfl rfl) (L_r (r_mb rfl) (L_ps (L_ps (L_ps (L_r (r_pf rfl rfl) ?_))))))))
          refine L_r (r_mb rfl) (L_ps (L_ps (L_ps (L_ps (L_r (r_pf rfl rfl) (L_r (r_ab rfl) (L_nil (W_ret ?_))))))))
          refine ret1 (v := .bool _) rfl rfl ?_
          first
          | (refine ⟨_, rfl, ⟨fun h => absurd h (by decide), fun h => ?_⟩, Ch.au⟩
             have k := hQ1.1 (hQ.1 h).1
             clear hQ hQ1 hlo hz hx hl hV hb h
             exfalso
             first
             | (rw [k.1] at h15; exact absurd h15 (by decide))
             | exact absurd (h33.symm.trans k.2.2.2) (by decide)
             | (simp [k.1] at h15; done)
             | (simp only [k.2.2.2] at h33; exact absurd h33 (by decide))
             | (simp_all; done)
             | omega)
          | (refine ⟨_, rfl, ⟨fun h => absurd h (by decide), fun h => ?_⟩, Ch.au⟩
             have k := hQ1.1 (hQ.1 h).1
             clear hQ hQ1 hlo hz hx hl hV hb h
             omega)
          | (refine ⟨_, rfl, ?_, Ch.au⟩
             rw [hQ]
             clear hQ hQ1 hlo hz hx hl hV hb
             (try unfold hasC at *)
             simp_all
             try omega)
        ·
         refine L_ps (L_ps (L_ps (L_r (r_pf rfl rfl) (L_r (r_mb rfl) (L_ps (L_ps (L_ps (L_r (r_pf rfl rfl) ?_))))))))
         refine L_r (r_mb rfl) (L_ps (L_ps (L_ps (L_r (r_pf rfl rfl) (L_r (r_mb rfl) (L_ps (L_ps (L_ps ?_))))))))
         refine L_ps (L_r (r_pf rfl rfl) (L_r (r_ab rfl) (L_nil (W_ret ?_))))
         refine ret1 (v := .bool _) rfl rfl ?_
         first
         | (refine ⟨_, rfl, ⟨fun h => absurd h (by decide), fun h => ?_⟩, Ch.au⟩
            have k := hQ1.1 (hQ.1 h).1
            clear hQ hQ1 hlo hz hx hl hV hb h
            exfalso
            first
            | (rw [k.1] at h15; exact absurd h15 (by decide))
            | exact absurd (h33.symm.trans k.2.2.2) (by decide)
            | (simp [k.1] at h15; done)
            | (simp only [k.2.2.2] at h33; exact absurd h33 (by decide))
            | (simp_all; done)
            | omega)
         | (refine ⟨_, rfl, ⟨fun h => absurd h (by decide), fun h => ?_⟩, Ch.au⟩
            have k := hQ1.1 (hQ.1 h).1
            clear hQ hQ1 hlo hz hx hl hV hb h
            omega)
         | (refine ⟨_, rfl, ?_, Ch.au⟩
            rw [hQ]
            clear hQ hQ1 hlo hz hx hl hV hb
            (try unfold hasC at *)
            simp_all
            try omega)
       ·
        refine L_ps (L_ps (L_ps (L_r (r_pf rfl rfl) (L_r (r_mb rfl) (L_ps (L_ps (L_ps (L_r (r_pf rfl rfl) ?_))))))))
        refine L_r (r_mb rfl) (L_ps (L_ps (L_ps (L_r (r_pf rfl rfl) (L_r (r_mb rfl) (L_ps (L_ps (L_ps ?_))))))))
        refine L_r (r_pf rfl rfl) (L_r (r_mb rfl) (L_ps (L_ps (L_ps (L_ps (L_r (r_pf rfl rfl) (L_r (r_ab rfl) (L_nil ?_))))))))
        refine W_ret ?_
        refine ret1 (v := .bool _) rfl rfl ?_
        first
        | (refine ⟨_, rfl, ⟨fun h => absurd h (by decide), fun h => ?_⟩, Ch.au⟩
           have k := hQ1.1 (hQ.1 h).1
           clear hQ hQ1 hlo hz hx hl hV hb h
           exfalso
           first
           | (rw [k.1] at h15; exact absurd h15 (by decide))
           | exact absurd (h33.symm.trans k.2.2.2) (by decide)
           | (simp [k.1] at h15; done)
           | (simp only [k.2.2.2] at h33; exact absurd h33 (by decide))
           | (simp_all; done)
           | omega)
        | (refine ⟨_, rfl, ⟨fun h => absurd h (by decide), fun h => ?_⟩, Ch.au⟩
           have k := hQ1.1 (hQ.1 h).1
           clear hQ hQ1 hlo hz hx hl hV hb h
           omega)
        | (refine ⟨_, rfl, ?_, Ch.au⟩
           rw [hQ]
           clear hQ hQ1 hlo hz hx hl hV hb
           (try unfold hasC at *)
           simp_all
           try omega)
      ·
       refine L_g (r_fieldb Tryz.underlying29 rfl (show _ = some 1 from rfl) rfl rfl (show _ = 8 from rfl)) ?_
       refine L_g (r_lb rfl rfl) ?_
       refine L_call (.yes 3 false rfl rfl) rfl rfl (r_call Tryz.func26 rfl rfl rfl (by rfl)) (class_walk _ _) ?_
       rintro v54 w56 ⟨rfl, c56⟩
       have hz56 := c56.size
       refine L_r (r_pf rfl rfl) (L_r (r_ab rfl) (L_nil (W_seq (W_region (L_r (r_mb rfl) (L_r (r_mb rfl) ?_))))))
       refine L_g (r_mb rfl) (L_r (r_pt rfl rfl) (L_r (r_mb rfl) ?_))
       refine L_caseb (d := 60) rfl (fun h60 => ?_) (fun h60 => ?_)
       ·
        refine L_g (r_fieldb Tryz.underlying29 rfl (show _ = some 1 from rfl) rfl rfl (show _ = 1 from rfl)) ?_
        refine L_g (r_lb rfl rfl) ?_
        refine L_g (r_geq rfl rfl) (L_r (r_pt rfl rfl) (L_r (r_mb rfl) ?_))
        refine L_case (d := 65) rfl (fun h65 => ?_) (fun h65 => ?_)
        ·
         refine L_g (r_fieldb Tryz.underlying29 rfl (show _ = some 1 from rfl) rfl rfl (show _ = 1 from rfl)) ?_
         refine L_g (r_lb rfl rfl) ?_
         refine L_g (r_leq rfl rfl) (L_r (r_pt rfl rfl) (L_r (r_mb rfl) ?_))
         refine L_case (d := 70) rfl (fun h70 => ?_) (fun h70 => ?_)
         ·
          refine L_g (r_fieldb Tryz.underlying29 rfl (show _ = some 1 from rfl) rfl rfl (show _ = 5 from rfl)) ?_
          refine L_g (r_lb rfl rfl) ?_
          refine L_call (.yes 14 true rfl rfl) rfl rfl (r_call Tryz.func27 rfl rfl rfl (by rfl)) (ssmall_walk _ _) ?_
          rintro v73 w57 ⟨rfl, c57⟩
          have hz57 := c57.size
          refine L_r (r_pt rfl rfl) (L_r (r_mb rfl) ?_)
          refine L_caseb (d := 75) rfl (fun h75 => ?_) (fun h75 => ?_)
          ·
           refine L_g (r_fieldb Tryz.underlying29 rfl (show _ = some 1 from rfl) rfl rfl (show _ = 6 from rfl)) ?_
           refine L_g (r_lb rfl rfl) ?_
           refine L_call (.yes 19 true rfl rfl) rfl rfl (r_call Tryz.func27 rfl rfl rfl (by rfl)) (ssmall_walk _ _) ?_
           rintro v78 w58 ⟨rfl, c58⟩
           have hz58 := c58.size
           refine L_r (r_pt rfl rfl) (L_r (r_mb rfl) ?_)
           refine L_caseb (d := 80) rfl (fun h80 => ?_) (fun h80 => ?_)
           ·
            refine L_g (r_fieldb Tryz.underlying29 rfl (show _ = some 1 from rfl) rfl rfl (show _ = 7 from rfl)) ?_
            refine L_g (r_lb rfl rfl) ?_
            refine L_call (.yes 24 true rfl rfl) rfl rfl (r_call Tryz.func27 rfl rfl rfl (by rfl)) (ssmall_walk _ _) ?_
            rintro v83 w59 ⟨rfl, c59⟩
            have hz59 := c59.size
            refine L_r (r_pt rfl rfl) (L_r (r_mb rfl) ?_)
            refine L_caseb (d := 85) rfl (fun h85 => ?_) (fun h85 => ?_)
            ·
             refine L_g (r_fieldb Tryz.underlying29 rfl (show _ = some 1 from rfl) rfl rfl (show _ = 9 from rfl)) ?_
             refine L_g (r_lb rfl rfl) ?_
             refine L_g (r_lens Tryz.underlying9 rfl) ?_
             refine L_g (r_leq rfl rfl) (L_r (r_pt rfl rfl) (L_r (r_ab rfl) (L_nil (W_ret ?_))))
             refine ret1 (v := .bool _) rfl rfl ?_
             first
             | (refine ⟨_, rfl, ⟨fun h => absurd h (by decide), fun h => ?_⟩, Ch.au⟩
                have k := hQ1.1 (hQ.1 h).1
                clear hQ hQ1 hlo hz hx hl hV hb h
                exfalso
                first
                | (rw [k.1] at h15; exact absurd h15 (by decide))
                | exact absurd (h33.symm.trans k.2.2.2) (by decide)
                | (simp [k.1] at h15; done)
                | (simp only [k.2.2.2] at h33; exact absurd h33 (by decide))
                | (simp_all; done)
                | omega)
             | (refine ⟨_, rfl, ⟨fun h => absurd h (by decide), fun h => ?_⟩, Ch.au⟩
                have k := hQ1.1 (hQ.1 h).1
                clear hQ hQ1 hlo hz hx hl hV hb h
                omega)
             | (refine ⟨_, rfl, ?_, Ch.au⟩
                rw [hQ]
                clear hQ hQ1 hlo hz hx hl hV hb
                (try unfold hasC at *)
                simp_all
                try omega)
            ·
             refine L_ps (L_ps (L_ps (L_ps (L_r (r_pf rfl rfl) (L_r (r_ab rfl) (L_nil (W_ret ?_)))))))
             refine ret1 (v := .bool _) rfl rfl ?_
             first
             | (refine ⟨_, rfl, ⟨fun h => absurd h (by decide), fun h => ?_⟩, Ch.au⟩
                have k := hQ1.1 (hQ.1 h).1
                clear hQ hQ1 hlo hz hx hl hV hb h
                exfalso
                first
                | (rw [k.1] at h15; exact absurd h15 (by decide))
                | exact absurd (h33.symm.trans k.2.2.2) (by decide)
                | (simp [k.1] at h15; done)
                | (simp only [k.2.2.2] at h33; exact absurd h33 (by decide))
                | (simp_all; done)
                | omega)
             | (refine ⟨_, rfl, ⟨fun h => absurd h (by decide), fun h => ?_⟩, Ch.au⟩
                have k := hQ1.1 (hQ.1 h).1
                clear hQ hQ1 hlo hz hx hl hV hb h
                omega)
             | (refine ⟨_, rfl, ?_, Ch.au⟩
                rw [hQ]
                clear hQ hQ1 hlo hz hx hl hV hb
                (try unfold hasC at *)
                simp_all
                try omega)
           ·
            refine L_ps (L_ps (L_ps (L_r (r_pf rfl rfl) (L_r (r_mb rfl) (L_ps (L_ps (L_ps (L_ps ?_))))))))
            refine L_r (r_pf rfl rfl) (L_r (r_ab rfl) (L_nil (W_ret ?_)))
            refine ret1 (v := .bool _) rfl rfl ?_
            first
            | (refine ⟨_, rfl, ⟨fun h => absurd h (by decide), fun h => ?_⟩, Ch.au⟩
               have k := hQ1.1 (hQ.1 h).1
               clear hQ hQ1 hlo hz hx hl hV hb h
               exfalso
               first
               | (rw [k.1] at h15; exact absurd h15 (by decide))
               | exact absurd (h33.symm.trans k.2.2.2) (by decide)
               | (simp [k.1] at h15; done)
               | (simp only [k.2.2.2] at h33; exact absurd h33 (by decide))
               | (simp_all; done)
               | omega)
            | (refine ⟨_, rfl, ⟨fun h => absurd h (by decide), fun h => ?_⟩, Ch.au⟩
               have k := hQ1.1 (hQ.1 h).1
               clear hQ hQ1 hlo hz hx hl hV hb h
               omega)
            | (refine ⟨_, rfl, ?_, Ch.au⟩
               rw [hQ]
               clear hQ hQ1 hlo hz hx hl hV hb
               (try unfold hasC at *)
               simp_all
               try omega)
          ·
           refine L_ps (L_ps (L_ps (L_r (r_pf rfl rfl) (L_r (r_mb rfl) (L_ps (L_ps (L_ps (L_r (r_pf rfl rfl) ?_))))))))
           refine L_r (r_mb rfl) (L_ps (L_ps (L_ps (L_ps (L_r (r_pf rfl rfl) (L_r (r_ab rfl) (L_nil (W_ret ?_))))))))
           refine ret1 (v := .bool _) rfl rfl ?_
           first
           | (refine ⟨_, rfl, ⟨fun h => absurd h (by decide), fun h => ?_⟩, Ch.au⟩
              have k := hQ1.1 (hQ.1 h).1
              clear hQ hQ1 hlo hz hx hl hV hb h
              exfalso
              first
              | (rw [k.1] at h15; exact absurd h15 (by decide))
              | exact absurd (h33.symm.trans k.2.2.2) (by decide)
              | (simp [k.1] at h15; done)
              | (simp only [k.2.2.2] at h33; exact absurd h33 (by decide))
              | (simp_all; done)
              | omega)
           | (refine ⟨_, rfl, ⟨fun h => absurd h (by decide), fun h => ?_⟩, Ch.au⟩
              have k := hQ1.1 (hQ.1 h).1
              clear hQ hQ1 hlo hz hx hl hV hb h
              omega)
           | (refine ⟨_, rfl, ?_, Ch.au⟩
              rw [hQ]
              clear hQ hQ1 hlo hz hx hl hV hb
              (try unfold hasC at *)
              simp_all
              try omega)
         ·
          refine L_ps (L_ps (L_ps (L_r (r_pf rfl rfl) (L_r (r_mb rfl) (L_ps (L_ps (L_ps (L_r (r_pf rfl rfl) ?_))))))))
          refine L_r (r_mb rfl) (L_ps (L_ps (L_ps (L_r (r_pf rfl rfl) (L_r (r_mb rfl) (L_ps (L_ps (L_ps ?_))))))))
          refine L_ps (L_r (r_pf rfl rfl) (L_r (r_ab rfl) (L_nil (W_ret ?_))))
          refine ret1 (v := .bool _) rfl rfl ?_
          first
          | (refine ⟨_, rfl, ⟨fun h => absurd h (by decide), fun h => ?_⟩, Ch.au⟩
             have k := hQ1.1 (hQ.1 h).1
             clear hQ hQ1 hlo hz hx hl hV hb h
             exfalso
             first
             | (rw [k.1] at h15; exact absurd h15 (by decide))
             | exact absurd (h33.symm.trans k.2.2.2) (by decide)
             | (simp [k.1] at h15; done)
             | (simp only [k.2.2.2] at h33; exact absurd h33 (by decide))
             | (simp_all; done)
             | omega)
          | (refine ⟨_, rfl, ⟨fun h => absurd h (by decide), fun h => ?_⟩, Ch.au⟩
             have k := hQ1.1 (hQ.1 h).1
             clear hQ hQ1 hlo hz hx hl hV hb h
             omega)
          | (refine ⟨_, rfl, ?_, Ch.au⟩
             rw [hQ]
             clear hQ hQ1 hlo hz hx hl hV hb
             (try unfold hasC at *)
             simp_all
             try omega)
        ·
         refine L_ps (L_ps (L_ps (L_r (r_pf rfl rfl) (L_r (r_mb rfl) (L_ps (L_ps (L_ps (L_r (r_pf rfl rfl) ?_))))))))
         refine L_r (r_mb rfl) (L_ps (L_ps (L_ps (L_r (r_pf rfl rfl) (L_r (r_mb rfl) (L_ps (L_ps (L_ps ?_))))))))
         refine L_r (r_pf rfl rfl) (L_r (r_mb rfl) (L_ps (L_ps (L_ps (L_ps (L_r (r_pf rfl rfl) (L_r (r_ab rfl) (L_nil ?_))))))))
         refine W_ret ?_
         refine ret1 (v := .bool _) rfl rfl ?_
         first
         | (refine ⟨_, rfl, ⟨fun h => absurd h (by decide), fun h => ?_⟩, Ch.au⟩
            have k := hQ1.1 (hQ.1 h).1
            clear hQ hQ1 hlo hz hx hl hV hb h
            exfalso
            first
            | (rw [k.1] at h15; exact absurd h15 (by decide))
            | exact absurd (h33.symm.trans k.2.2.2) (by decide)
            | (simp [k.1] at h15; done)
            | (simp only [k.2.2.2] at h33; exact absurd h33 (by decide))
            | (simp_all; done)
            | omega)
         | (refine ⟨_, rfl, ⟨fun h => absurd h (by decide), fun h => ?_⟩, Ch.au⟩
            have k := hQ1.1 (hQ.1 h).1
            clear hQ hQ1 hlo hz hx hl hV hb h
            omega)
         | (refine ⟨_, rfl, ?_, Ch.au⟩
            rw [hQ]
            clear hQ hQ1 hlo hz hx hl hV hb
            (try unfold hasC at *)
            simp_all
            try omega)
       ·
        refine L_ps (L_ps (L_ps (L_r (r_pf rfl rfl) (L_r (r_mb rfl) (L_ps (L_ps (L_ps (L_r (r_pf rfl rfl) ?_))))))))
        refine L_r (r_mb rfl) (L_ps (L_ps (L_ps (L_r (r_pf rfl rfl) (L_r (r_mb rfl) (L_ps (L_ps (L_ps ?_))))))))
        refine L_r (r_pf rfl rfl) (L_r (r_mb rfl) (L_ps (L_ps (L_ps (L_r (r_pf rfl rfl) (L_r (r_mb rfl) (L_ps (L_ps ?_))))))))
        refine L_ps (L_ps (L_r (r_pf rfl rfl) (L_r (r_ab rfl) (L_nil (W_ret ?_)))))
        refine ret1 (v := .bool _) rfl rfl ?_
        first
        | (refine ⟨_, rfl, ⟨fun h => absurd h (by decide), fun h => ?_⟩, Ch.au⟩
           have k := hQ1.1 (hQ.1 h).1
           clear hQ hQ1 hlo hz hx hl hV hb h
           exfalso
           first
           | (rw [k.1] at h15; exact absurd h15 (by decide))
           | exact absurd (h33.symm.trans k.2.2.2) (by decide)
           | (simp [k.1] at h15; done)
           | (simp only [k.2.2.2] at h33; exact absurd h33 (by decide))
           | (simp_all; done)
           | omega)
        | (refine ⟨_, rfl, ⟨fun h => absurd h (by decide), fun h => ?_⟩, Ch.au⟩
           have k := hQ1.1 (hQ.1 h).1
           clear hQ hQ1 hlo hz hx hl hV hb h
           omega)
        | (refine ⟨_, rfl, ?_, Ch.au⟩
           rw [hQ]
           clear hQ hQ1 hlo hz hx hl hV hb
           (try unfold hasC at *)
           simp_all
           try omega)
     ·
      refine L_g (r_fieldb Tryz.underlying29 rfl (show _ = some 1 from rfl) rfl rfl (show _ = 3 from rfl)) ?_
      refine L_g (r_lb rfl rfl) ?_
      refine L_call (.yes 3 false rfl rfl) rfl rfl (r_call Tryz.func25 rfl rfl rfl (by rfl)) (name_walk _ _) ?_
      rintro v40 w60 ⟨rfl, c60⟩
      have hz60 := c60.size
      refine L_g (r_mb rfl) ?_
      refine L_caseb (d := 41) rfl (fun h41 => ?_) (fun h41 => ?_)
      ·
       refine L_g (r_fieldb Tryz.underlying29 rfl (show _ = some 1 from rfl) rfl rfl (show _ = 3 from rfl)) ?_
       refine L_g (r_lb rfl rfl) ?_
       refine L_call (.yes 7 true rfl rfl) rfl rfl (r_call Tryz.func26 rfl rfl rfl (by rfl)) (class_walk _ _) ?_
       rintro v44 w61 ⟨rfl, c61⟩
       have hz61 := c61.size
       refine L_g (r_not rfl) ?_
       refine L_g (r_pt rfl rfl) (L_r (r_pf rfl rfl) (L_r (r_ab rfl) (L_nil (W_seq (W_region (L_r (r_ms rfl) ?_))))))
       refine L_call (.plain rfl) rfl rfl (r_call Tryz.func24 rfl rfl rfl (by rfl)) (scont_use _ _ _) ?_
       rintro v49 w62 ⟨rfl, rfl⟩
       refine L_r (r_not rfl) (L_r (r_mb rfl) ?_)
       refine L_caseb (d := 51) rfl (fun h51 => ?_) (fun h51 => ?_)
       ·
        refine L_ps (L_ps (L_ps (L_r (r_pt rfl rfl) (L_r (r_ab rfl) (L_nil (W_seq (W_region (L_r (r_mb rfl) ?_))))))))
        refine L_r (r_mb rfl) ?_
        refine L_caseb (d := 57) rfl (fun h57 => ?_) (fun h57 => ?_)
        ·
         refine L_g (r_mb rfl) (L_r (r_pt rfl rfl) (L_r (r_mb rfl) ?_))
         refine L_g (r_fieldb Tryz.underlying29 rfl (show _ = some 1 from rfl) rfl rfl (show _ = 1 from rfl)) ?_
         refine L_g (r_lb rfl rfl) ?_
         refine L_g (r_geq rfl rfl) (L_r (r_pt rfl rfl) (L_r (r_mb rfl) ?_))
         refine L_case (d := 65) rfl (fun h65 => ?_) (fun h65 => ?_)
         ·
          refine L_g (r_fieldb Tryz.underlying29 rfl (show _ = some 1 from rfl) rfl rfl (show _ = 1 from rfl)) ?_
          refine L_g (r_lb rfl rfl) ?_
          refine L_g (r_leq rfl rfl) (L_r (r_pt rfl rfl) (L_r (r_mb rfl) ?_))
          refine L_case (d := 70) rfl (fun h70 => ?_) (fun h70 => ?_)
          ·
           refine L_g (r_fieldb Tryz.underlying29 rfl (show _ = some 1 from rfl) rfl rfl (show _ = 5 from rfl)) ?_
           refine L_g (r_lb rfl rfl) ?_
           refine L_call (.yes 14 true rfl rfl) rfl rfl (r_call Tryz.func27 rfl rfl rfl (by rfl)) (ssmall_walk _ _) ?_
           rintro v73 w63 ⟨rfl, c63⟩
           have hz63 := c63.size
           refine L_r (r_pt rfl rfl) (L_r (r_mb rfl) ?_)
           refine L_caseb (d := 75) rfl (fun h75 => ?_) (fun h75 => ?_)
           ·
            refine L_g (r_fieldb Tryz.underlying29 rfl (show _ = some 1 from rfl) rfl rfl (show _ = 6 from rfl)) ?_
            refine L_g (r_lb rfl rfl) ?_
            refine L_call (.yes 19 true rfl rfl) rfl rfl (r_call Tryz.func27 rfl rfl rfl (by rfl)) (ssmall_walk _ _) ?_
            rintro v78 w64 ⟨rfl, c64⟩
            have hz64 := c64.size
            refine L_r (r_pt rfl rfl) (L_r (r_mb rfl) ?_)
            refine L_caseb (d := 80) rfl (fun h80 => ?_) (fun h80 => ?_)
            ·
             refine L_g (r_fieldb Tryz.underlying29 rfl (show _ = some 1 from rfl) rfl rfl (show _ = 7 from rfl)) ?_
             refine L_g (r_lb rfl rfl) ?_
             refine L_call (.yes 24 true rfl rfl) rfl rfl (r_call Tryz.func27 rfl rfl rfl (by rfl)) (ssmall_walk _ _) ?_
             rintro v83 w65 ⟨rfl, c65⟩
             have hz65 := c65.size
             refine L_r (r_pt rfl rfl) (L_r (r_mb rfl) ?_)
             refine L_caseb (d := 85) rfl (fun h85 => ?_) (fun h85 => ?_)
             ·
              refine L_g (r_fieldb Tryz.underlying29 rfl (show _ = some 1 from rfl) rfl rfl (show _ = 9 from rfl)) ?_
              refine L_g (r_lb rfl rfl) ?_
              refine L_g (r_lens Tryz.underlying9 rfl) ?_
              refine L_g (r_leq rfl rfl) (L_r (r_pt rfl rfl) (L_r (r_ab rfl) (L_nil (W_ret ?_))))
              refine ret1 (v := .bool _) rfl rfl ?_
              first
              | (refine ⟨_, rfl, ⟨fun h => absurd h (by decide), fun h => ?_⟩, Ch.au⟩
                 have k := hQ1.1 (hQ.1 h).1
                 clear hQ hQ1 hlo hz hx hl hV hb h
                 exfalso
                 first
                 | (rw [k.1] at h15; exact absurd h15 (by decide))
                 | exact absurd (h33.symm.trans k.2.2.2) (by decide)
                 | (simp [k.1] at h15; done)
                 | (simp only [k.2.2.2] at h33; exact absurd h33 (by decide))
                 | (simp_all; done)
                 | omega)
              | (refine ⟨_, rfl, ⟨fun h => absurd h (by decide), fun h => ?_⟩, Ch.au⟩
                 have k := hQ1.1 (hQ.1 h).1
                 clear hQ hQ1 hlo hz hx hl hV hb h
                 omega)
              | (refine ⟨_, rfl, ?_, Ch.au⟩
                 rw [hQ]
                 clear hQ hQ1 hlo hz hx hl hV hb
                 (try unfold hasC at *)
                 simp_all
                 try omega)
             ·
              refine L_ps (L_ps (L_ps (L_ps (L_r (r_pf rfl rfl) (L_r (r_ab rfl) (L_nil (W_ret ?_)))))))
              refine ret1 (v := .bool _) rfl rfl ?_
              first
              | (refine ⟨_, rfl, ⟨fun h => absurd h (by decide), fun h => ?_⟩, Ch.au⟩
                 have k := hQ1.1 (hQ.1 h).1
                 clear hQ hQ1 hlo hz hx hl hV hb h
                 exfalso
                 first
                 | (rw [k.1] at h15; exact absurd h15 (by decide))
                 | exact absurd (h33.symm.trans k.2.2.2) (by decide)
                 | (simp [k.1] at h15; done)
                 | (simp only [k.2.2.2] at h33; exact absurd h33 (by decide))
                 | (simp_all; done)
                 | omega)
              | (refine ⟨_, rfl, ⟨fun h => absurd h (by decide), fun h => ?_⟩, Ch.au⟩
                 have k := hQ1.1 (hQ.1 h).1
                 clear hQ hQ1 hlo hz hx hl hV hb h
                 omega)
              | (refine ⟨_, rfl, ?_, Ch.au⟩
                 rw [hQ]
                 clear hQ hQ1 hlo hz hx hl hV hb
                 (try unfold hasC at *)
                 simp_all
                 try omega)
            ·
             refine L_ps (L_ps (L_ps (L_r (r_pf rfl rfl) (L_r (r_mb rfl) (L_ps (L_ps (L_ps (L_ps ?_))))))))
             refine L_r (r_pf rfl rfl) (L_r (r_ab rfl) (L_nil (W_ret ?_)))
             refine ret1 (v := .bool _) rfl rfl ?_
             first
             | (refine ⟨_, rfl, ⟨fun h => absurd h (by decide), fun h => ?_⟩, Ch.au⟩
                have k := hQ1.1 (hQ.1 h).1
                clear hQ hQ1 hlo hz hx hl hV hb h
                exfalso
                first
                | (rw [k.1] at h15; exact absurd h15 (by decide))
                | exact absurd (h33.symm.trans k.2.2.2) (by decide)
                | (simp [k.1] at h15; done)
                | (simp only [k.2.2.2] at h33; exact absurd h33 (by decide))
                | (simp_all; done)
                | omega)
             | (refine ⟨_, rfl, ⟨fun h => absurd h (by decide), fun h => ?_⟩, Ch.au⟩
                have k := hQ1.1 (hQ.1 h).1
                clear hQ hQ1 hlo hz hx hl hV hb h
                omega)
             | (refine ⟨_, rfl, ?_, Ch.au⟩
                rw [hQ]
                clear hQ hQ1 hlo hz hx hl hV hb
                (try unfold hasC at *)
                simp_all
                try omega)
           ·
            refine L_ps (L_ps (L_ps (L_r (r_pf rfl rfl) (L_r (r_mb rfl) (L_ps (L_ps (L_ps (L_r (r_pf rfl rfl) ?_))))))))
            refine L_r (r_mb rfl) (L_ps (L_ps (L_ps (L_ps (L_r (r_pf rfl rfl) (L_r (r_ab rfl) (L_nil (W_ret ?_))))))))
            refine ret1 (v := .bool _) rfl rfl ?_
            first
            | (refine ⟨_, rfl, ⟨fun h => absurd h (by decide), fun h => ?_⟩, Ch.au⟩
               have k := hQ1.1 (hQ.1 h).1
               clear hQ hQ1 hlo hz hx hl hV hb h
               exfalso
               first
               | (rw [k.1] at h15; exact absurd h15 (by decide))
               | exact absurd (h33.symm.trans k.2.2.2) (by decide)
               | (simp [k.1] at h15; done)
               | (simp only [k.2.2.2] at h33; exact absurd h33 (by decide))
               | (simp_all; done)
               | omega)
            | (refine ⟨_, rfl, ⟨fun h => absurd h (by decide), fun h => ?_⟩, Ch.au⟩
               have k := hQ1.1 (hQ.1 h).1
               clear hQ hQ1 hlo hz hx hl hV hb h
               omega)
            | (refine ⟨_, rfl, ?_, Ch.au⟩
               rw [hQ]
               clear hQ hQ1 hlo hz hx hl hV hb
               (try unfold hasC at *)
               simp_all
               try omega)
          ·
           refine L_ps (L_ps (L_ps (L_r (r_pf rfl rfl) (L_r (r_mb rfl) (L_ps (L_ps (L_ps (L_r (r_pf rfl rfl) ?_))))))))
           refine L_r (r_mb rfl) (L_ps (L_ps (L_ps (L_r (r_pf rfl rfl) (L_r (r_mb rfl) (L_ps (L_ps (L_ps ?_))))))))
           refine L_ps (L_r (r_pf rfl rfl) (L_r (r_ab rfl) (L_nil (W_ret ?_))))
           refine ret1 (v := .bool _) rfl rfl ?_
           first
           | (refine ⟨_, rfl, ⟨fun h => absurd h (by decide), fun h => ?_⟩, Ch.au⟩
              have k := hQ1.1 (hQ.1 h).1
              clear hQ hQ1 hlo hz hx hl hV hb h
              exfalso
              first
              | (rw [k.1] at h15; exact absurd h15 (by decide))
              | exact absurd (h33.symm.trans k.2.2.2) (by decide)
              | (simp [k.1] at h15; done)
              | (simp only [k.2.2.2] at h33; exact absurd h33 (by decide))
              | (simp_all; done)
              | omega)
           | (refine ⟨_, rfl, ⟨fun h => absurd h (by decide), fun h => ?_⟩, Ch.au⟩
              have k := hQ1.1 (hQ.1 h).1
              clear hQ hQ1 hlo hz hx hl hV hb h
              omega)
           | (refine ⟨_, rfl, ?_, Ch.au⟩
              rw [hQ]
              clear hQ hQ1 hlo hz hx hl hV hb
              (try unfold hasC at *)
              simp_all
              try omega)
         ·
          refine L_ps (L_ps (L_ps (L_r (r_pf rfl rfl) (L_r (r_mb rfl) (L_ps (L_ps (L_ps (L_r (r_pf rfl rfl) ?_))))))))
          refine L_r (r_mb rfl) (L_ps (L_ps (L_ps (L_r (r_pf rfl rfl) (L_r (r_mb rfl) (L_ps (L_ps (L_ps ?_))))))))
          refine L_r (r_pf rfl rfl) (L_r (r_mb rfl) (L_ps (L_ps (L_ps (L_ps (L_r (r_pf rfl rfl) (L_r (r_ab rfl) (L_nil ?_))))))))
          refine W_ret ?_
          refine ret1 (v := .bool _) rfl rfl ?_
          first
          | (refine ⟨_, rfl, ⟨fun h => absurd h (by decide), fun h => ?_⟩, Ch.au⟩
             have k := hQ1.1 (hQ.1 h).1
             clear hQ hQ1 hlo hz hx hl hV hb h
             exfalso
             first
             | (rw [k.1] at h15; exact absurd h15 (by decide))
             | exact absurd (h33.symm.trans k.2.2.2) (by decide)
             | (simp [k.1] at h15; done)
             | (simp only [k.2.2.2] at h33; exact absurd h33 (by decide))
             | (simp_all; done)
             | omega)
          | (refine ⟨_, rfl, ⟨fun h => absurd h (by decide), fun h => ?_⟩, Ch.au⟩
             have k := hQ1.1 (hQ.1 h).1
             clear hQ hQ1 hlo hz hx hl hV hb h
             omega)
          | (refine ⟨_, rfl, ?_, Ch.au⟩
             rw [hQ]
             clear hQ hQ1 hlo hz hx hl hV hb
             (try unfold hasC at *)
             simp_all
             try omega)
        ·
         refine L_ps (L_r (r_pf rfl rfl) (L_r (r_mb rfl) (L_ps (L_ps (L_ps (L_r (r_pf rfl rfl) (L_r (r_mb rfl) (L_ps ?_))))))))
         refine L_ps (L_ps (L_r (r_pf rfl rfl) (L_r (r_mb rfl) (L_ps (L_ps (L_ps (L_r (r_pf rfl rfl) (L_r (r_mb rfl) ?_))))))))
         refine L_ps (L_ps (L_ps (L_r (r_pf rfl rfl) (L_r (r_mb rfl) (L_ps (L_ps (L_ps (L_r (r_pf rfl rfl) ?_))))))))
         refine L_r (r_mb rfl) (L_ps (L_ps (L_ps (L_ps (L_r (r_pf rfl rfl) (L_r (r_ab rfl) (L_nil (W_ret ?_))))))))
         refine ret1 (v := .bool _) rfl rfl ?_
         first
         | (refine ⟨_, rfl, ⟨fun h => absurd h (by decide), fun h => ?_⟩, Ch.au⟩
            have k := hQ1.1 (hQ.1 h).1
            clear hQ hQ1 hlo hz hx hl hV hb h
            exfalso
            first
            | (rw [k.1] at h15; exact absurd h15 (by decide))
            | exact absurd (h33.symm.trans k.2.2.2) (by decide)
            | (simp [k.1] at h15; done)
            | (simp only [k.2.2.2] at h33; exact absurd h33 (by decide))
            | (simp_all; done)
            | omega)
         | (refine ⟨_, rfl, ⟨fun h => absurd h (by decide), fun h => ?_⟩, Ch.au⟩
            have k := hQ1.1 (hQ.1 h).1
            clear hQ hQ1 hlo hz hx hl hV hb h
            omega)
         | (refine ⟨_, rfl, ?_, Ch.au⟩
            rw [hQ]
            clear hQ hQ1 hlo hz hx hl hV hb
            (try unfold hasC at *)
            simp_all
            try omega)
       ·
        refine L_g (r_fieldb Tryz.underlying29 rfl (show _ = some 1 from rfl) rfl rfl (show _ = 8 from rfl)) ?_
        refine L_g (r_lb rfl rfl) ?_
        refine L_call (.yes 3 false rfl rfl) rfl rfl (r_call Tryz.func26 rfl rfl rfl (by rfl)) (class_walk _ _) ?_
        rintro v54 w66 ⟨rfl, c66⟩
        have hz66 := c66.size
        refine L_r (r_pf rfl rfl) (L_r (r_ab rfl) (L_nil (W_seq (W_region (L_r (r_mb rfl) (L_r (r_mb rfl) ?_))))))
        refine L_caseb (d := 57) rfl (fun h57 => ?_) (fun h57 => ?_)
        ·
         refine L_g (r_mb rfl) (L_r (r_pt rfl rfl) (L_r (r_mb rfl) ?_))
         refine L_caseb (d := 60) rfl (fun h60 => ?_) (fun h60 => ?_)
         ·
          refine L_g (r_fieldb Tryz.underlying29 rfl (show _ = some 1 from rfl) rfl rfl (show _ = 1 from rfl)) ?_
          refine L_g (r_lb rfl rfl) ?_
          refine L_g (r_geq rfl rfl) (L_r (r_pt rfl rfl) (L_r (r_mb rfl) ?_))
          refine L_case (d := 65) rfl (fun h65 => ?_) (fun h65 => ?_)
          ·
           refine L_g (r_fieldb Tryz.underlying29 rfl (show _ = some 1 from rfl) rfl rfl (show _ = 1 from rfl)) ?_
           refine L_g (r_lb rfl rfl) ?_
           refine L_g (r_leq rfl rfl) (L_r (r_pt rfl rfl) (L_r (r_mb rfl) ?_))
           refine L_case (d := 70) rfl (fun h70 => ?_) (fun h70 => ?_)
           ·
            refine L_g (r_fieldb Tryz.underlying29 rfl (show _ = some 1 from rfl) rfl rfl (show _ = 5 from rfl)) ?_
            refine L_g (r_lb rfl rfl) ?_
            refine L_call (.yes 14 true rfl rfl) rfl rfl (r_call Tryz.func27 rfl rfl rfl (by rfl)) (ssmall_walk _ _) ?_
            rintro v73 w67 ⟨rfl, c67⟩
            have hz67 := c67.size
            refine L_r (r_pt rfl rfl) (L_r (r_mb rfl) ?_)
            refine L_caseb (d := 75) rfl (fun h75 => ?_) (fun h75 => ?_)
            ·
             refine L_g (r_fieldb Tryz.underlying29 rfl (show _ = some 1 from rfl) rfl rfl (show _ = 6 from rfl)) ?_
             refine L_g (r_lb rfl rfl) ?_
             refine L_call (.yes 19 true rfl rfl) rfl rfl (r_call Tryz.func27 rfl rfl rfl (by rfl)) (ssmall_walk _ _) ?_
             rintro v78 w68 ⟨rfl, c68⟩
             have hz68 := c68.size
             refine L_r (r_pt rfl rfl) (L_r (r_mb rfl) ?_)
             refine L_caseb (d := 80) rfl (fun h80 => ?_) (fun h80 => ?_)
             ·
              refine L_g (r_fieldb Tryz.underlying29 rfl (show _ = some 1 from rfl) rfl rfl (show _ = 7 from rfl)) ?_
              refine L_g (r_lb rfl rfl) ?_
              refine L_call (.yes 24 true rfl rfl) rfl rfl (r_call Tryz.func27 rfl rfl rfl (by rfl)) (ssmall_walk _ _) ?_
              rintro v83 w69 ⟨rfl, c69⟩
              have hz69 := c69.size
              refine L_r (r_pt rfl rfl) (L_r (r_mb rfl) ?_)
              refine L_caseb (d := 85) rfl (fun h85 => ?_) (fun h85 => ?_)
              ·
               refine L_g (r_fieldb Tryz.underlying29 rfl (show _ = some 1 from rfl) rfl rfl (show _ = 9 from rfl)) ?_
               refine L_g (r_lb rfl rfl) ?_
               refine L_g (r_lens Tryz.underlying9 rfl) ?_
               refine L_g (r_leq rfl rfl) (L_r (r_pt rfl rfl) (L_r (r_ab rfl) (L_nil (W_ret ?_))))
               refine ret1 (v := .bool _) rfl rfl ?_
               first
               | (refine ⟨_, rfl, ⟨fun h => absurd h (by decide), fun h => ?_⟩, Ch.au⟩
                  have k := hQ1.1 (hQ.1 h).1
                  clear hQ hQ1 hlo hz hx hl hV hb h
                  exfalso
                  first
                  | (rw [k.1] at h15; exact absurd h15 (by decide))
                  | exact absurd (h33.symm.trans k.2.2.2) (by decide)
                  | (simp [k.1] at h15; done)
                  | (simp only [k.2.2.2] at h33; exact absurd h33 (by decide))
                  | (simp_all; done)
                  | omega)
               | (refine ⟨_, rfl, ⟨fun h => absurd h (by decide), fun h => ?_⟩, Ch.au⟩
                  have k := hQ1.1 (hQ.1 h).1
                  clear hQ hQ1 hlo hz hx hl hV hb h
                  omega)
               | (refine ⟨_, rfl, ?_, Ch.au⟩
                  rw [hQ]
                  clear hQ hQ1 hlo hz hx hl hV hb
                  (try unfold hasC at *)
                  simp_all
                  try omega)
              ·
               refine L_ps (L_ps (L_ps (L_ps (L_r (r_pf rfl rfl) (L_r (r_ab rfl) (L_nil (W_ret ?_)))))))
               refine ret1 (v := .bool _) rfl rfl ?_
               first
               | (refine ⟨_, rfl, ⟨fun h => absurd h (by decide), fun h => ?_⟩, Ch.au⟩
                  have k := hQ1.1 (hQ.1 h).1
                  clear hQ hQ1 hlo hz hx hl hV hb h
                  exfalso
                  first
                  | (rw [k.1] at h15; exact absurd h15 (by decide))
                  | exact absurd (h33.symm.trans k.2.2.2) (by decide)
                  | (simp [k.1] at h15; done)
                  | (simp only [k.2.2.2] at h33; exact absurd h33 (by decide))
                  | (simp_all; done)
                  | omega)
               | (refine ⟨_, rfl, ⟨fun h => absurd h (by decide), fun h => ?_⟩, Ch.au⟩
                  have k := hQ1.1 (hQ.1 h).1
                  clear hQ hQ1 hlo hz hx hl hV hb h
                  omega)
               | (refine ⟨_, rfl, ?_, Ch.au⟩
                  rw [hQ]
                  clear hQ hQ1 hlo hz hx hl hV hb
                  (try unfold hasC at *)
                  simp_all
                  try omega)
             ·
              refine L_ps (L_ps (L_ps (L_r (r_pf rfl rfl) (L_r (r_mb rfl) (L_ps (L_ps (L_ps (L_ps ?_))))))))
              refine L_r (r_pf rfl rfl) (L_r (r_ab rfl) (L_nil (W_ret ?_)))
              refine ret1 (v := .bool _) rfl rfl ?_
              first
              | (refine ⟨_, rfl, ⟨fun h => absurd h (by decide), fun h => ?_⟩, Ch.au⟩
                 have k := hQ1.1 (hQ.1 h).1
                 clear hQ hQ1 hlo hz hx hl hV hb h
                 exfalso
                 first
                 | (rw [k.1] at h15; exact absurd h15 (by decide))
                 | exact absurd (h33.symm.trans k.2.2.2) (by decide)
                 | (simp [k.1] at h15; done)
                 | (simp only [k.2.2.2] at h33; exact absurd h33 (by decide))
                 | (simp_all; done)
                 | omega)
              | (refine ⟨_, rfl, ⟨fun h => absurd h (by decide), fun h => ?_⟩, Ch.au⟩
                 have k := hQ1.1 (hQ.1 h).1
                 clear hQ hQ1 hlo hz hx hl hV hb h
                 omega)
              | (refine ⟨_, rfl, ?_, Ch.au⟩
                 rw [hQ]
                 clear hQ hQ1 hlo hz hx hl hV hb
                 (try unfold hasC at *)
                 simp_all
                 try omega)
            ·
             refine L_ps (L_ps (L_ps (L_r (r_pf rfl rfl) (L_r (r_mb rfl) (L_ps (L_ps (L_ps (L_r (r_pf rfl rfl) ?_))))))))
             refine L_r (r_mb rfl) (L_ps (L_ps (L_ps (L_ps (L_r (r_pf rfl rfl) (L_r (r_ab rfl) (L_nil (W_ret ?_))))))))
             refine ret1 (v := .bool _) rfl rfl ?_
             first
             | (refine ⟨_, rfl, ⟨fun h => absurd h (by decide), fun h => ?_⟩, Ch.au⟩
                have k := hQ1.1 (hQ.1 h).1
                clear hQ hQ1 hlo hz hx hl hV hb h
                exfalso
                first
                | (rw [k.1] at h15; exact absurd h15 (by decide))
                | exact absurd (h33.symm.trans k.2.2.2) (by decide)
                | (simp [k.1] at h15; done)
                | (simp only [k.2.2.2] at h33; exact absurd h33 (by decide))
                | (simp_all; done)
                | omega)
             | (refine ⟨_, rfl, ⟨fun h => absurd h (by decide), fun h => ?_⟩, Ch.au⟩
                have k := hQ1.1 (hQ.1 h).1
                clear hQ hQ1 hlo hz hx hl hV hb h
                omega)
             | (refine ⟨_, rfl, ?_, Ch.au⟩
                rw [hQ]
                clear hQ hQ1 hlo hz hx hl hV hb
                (try unfold hasC at *)
                simp_all
                try omega)
           ·
            refine L_ps (L_ps (L_ps (L_r (r_pf rfl rfl) (L_r (r_mb rfl) (L_ps (L_ps (L_ps (L_r (r_pf rfl rfl) ?_))))))))
            refine L_r (r_mb rfl) (L_ps (L_ps (L_ps (L_r (r_pf rfl rfl) (L_r (r_mb rfl) (L_ps (L_ps (L_ps ?_))))))))
            refine L_ps (L_r (r_pf rfl rfl) (L_r (r_ab rfl) (L_nil (W_ret ?_))))
            refine ret1 (v := .bool _) rfl rfl ?_
            first
            | (refine ⟨_, rfl, ⟨fun h => absurd h (by decide), fun h => ?_⟩, Ch.au⟩
               have k := hQ1.1 (hQ.1 h).1
               clear hQ hQ1 hlo hz hx hl hV hb h
               exfalso
               first
               | (rw [k.1] at h15; exact absurd h15 (by decide))
               | exact absurd (h33.symm.trans k.2.2.2) (by decide)
               | (simp [k.1] at h15; done)
               | (simp only [k.2.2.2] at h33; exact absurd h33 (by decide))
               | (simp_all; done)
               | omega)
            | (refine ⟨_, rfl, ⟨fun h => absurd h (by decide), fun h => ?_⟩, Ch.au⟩
               have k := hQ1.1 (hQ.1 h).1
               clear hQ hQ1 hlo hz hx hl hV hb h
               omega)
            | (refine ⟨_, rfl, ?_, Ch.au⟩
               rw [hQ]
               clear hQ hQ1 hlo hz hx hl hV hb
               (try unfold hasC at *)
               simp_all
               try omega)
          ·
           refine L_ps (L_ps (L_ps (L_r (r_pf rfl rfl) (L_r (r_mb rfl) (L_ps (L_ps (L_ps (L_r (r_pf rfl rfl) ?_))))))))
           refine L_r (r_mb rfl) (L_ps (L_ps (L_ps (L_r (r_pf rfl rfl) (L_r (r_mb rfl) (L_ps (L_ps (L_ps ?_))))))))
           refine L_r (r_pf rfl rfl) (L_r (r_mb rfl) (L_ps (L_ps (L_ps (L_ps (L_r (r_pf rfl rfl) (L_r (r_ab rfl) (L_nil ?_))))))))
           refine W_ret ?_
           refine ret1 (v := .bool _) rfl rfl ?_
           first
           | (refine ⟨_, rfl, ⟨fun h => absurd h (by decide), fun h => ?_⟩, Ch.au⟩
              have k := hQ1.1 (hQ.1 h).1
              clear hQ hQ1 hlo hz hx hl hV hb h
              exfalso
              first
              | (rw [k.1] at h15; exact absurd h15 (by decide))
              | exact absurd (h33.symm.trans k.2.2.2) (by decide)
              | (simp [k.1] at h15; done)
              | (simp only [k.2.2.2] at h33; exact absurd h33 (by decide))
              | (simp_all; done)
              | omega)
           | (refine ⟨_, rfl, ⟨fun h => absurd h (by decide), fun h => ?_⟩, Ch.au⟩
              have k := hQ1.1 (hQ.1 h).1
              clear hQ hQ1 hlo hz hx hl hV hb h
              omega)
           | (refine ⟨_, rfl, ?_, Ch.au⟩
              rw [hQ]
              clear hQ hQ1 hlo hz hx hl hV hb
              (try unfold hasC at *)
              simp_all
              try omega)
         ·
          refine L_ps (L_ps (L_ps (L_r (r_pf rfl rfl) (L_r (r_mb rfl) (L_ps (L_ps (L_ps (L_r (r_pf rfl rfl) ?_))))))))
          refine L_r (r_mb rfl) (L_ps (L_ps (L_ps (L_r (r_pf rfl rfl) (L_r (r_mb rfl) (L_ps (L_ps (L_ps ?_))))))))
          refine L_r (r_pf rfl rfl) (L_r (r_mb rfl) (L_ps (L_ps (L_ps (L_r (r_pf rfl rfl) (L_r (r_mb rfl) (L_ps (L_ps ?_))))))))
          refine L_ps (L_ps (L_r (r_pf rfl rfl) (L_r (r_ab rfl) (L_nil (W_ret ?_)))))
          refine ret1 (v := .bool _) rfl rfl ?_
          first
          | (refine ⟨_, rfl, ⟨fun h => absurd h (by decide), fun h => ?_⟩, Ch.au⟩
             have k := hQ1.1 (hQ.1 h).1
             clear hQ hQ1 hlo hz hx hl hV hb h
             exfalso
             first
             | (rw [k.1] at h15; exact absurd h15 (by decide))
             | exact absurd (h33.symm.trans k.2.2.2) (by decide)
             | (simp [k.1] at h15; done)
             | (simp only [k.2.2.2] at h33; exact absurd h33 (by decide))
             | (simp_all; done)
             | omega)
          | (refine ⟨_, rfl, ⟨fun h => absurd h (by decide), fun h => ?_⟩, Ch.au⟩
             have k := hQ1.1 (hQ.1 h).1
             clear hQ hQ1 hlo hz hx hl hV hb h
             omega)
          | (refine ⟨_, rfl, ?_, Ch.au⟩
             rw [hQ]
             clear hQ hQ1 hlo hz hx hl hV hb
             (try unfold hasC at *)
             simp_all
             try omega)
        ·
         refine L_ps (L_r (r_pf rfl rfl) (L_r (r_mb rfl) (L_ps (L_ps (L_ps (L_r (r_pf rfl rfl) (L_r (r_mb rfl) (L_ps ?_))))))))
         refine L_ps (L_ps (L_r (r_pf rfl rfl) (L_r (r_mb rfl) (L_ps (L_ps (L_ps (L_r (r_pf rfl rfl) (L_r (r_mb rfl) ?_))))))))
         refine L_ps (L_ps (L_ps (L_r (r_pf rfl rfl) (L_r (r_mb rfl) (L_ps (L_ps (L_ps (L_r (r_pf rfl rfl) ?_))))))))
         refine L_r (r_mb rfl) (L_ps (L_ps (L_ps (L_ps (L_r (r_pf rfl rfl) (L_r (r_ab rfl) (L_nil (W_ret ?_))))))))
         refine ret1 (v := .bool _) rfl rfl ?_
         first
         | (refine ⟨_, rfl, ⟨fun h => absurd h (by decide), fun h => ?_⟩, Ch.au⟩
            have k := hQ1.1 (hQ.1 h).1
            clear hQ hQ1 hlo hz hx hl hV hb h
            exfalso
            first
            | (rw [k.1] at h15; exact absurd h15 (by decide))
            | exact absurd (h33.symm.trans k.2.2.2) (by decide)
            | (simp [k.1] at h15; done)
            | (simp only [k.2.2.2] at h33; exact absurd h33 (by decide))
            | (simp_all; done)
            | omega)
         | (refine ⟨_, rfl, ⟨fun h => absurd h (by decide), fun h => ?_⟩, Ch.au⟩
            have k := hQ1.1 (hQ.1 h).1
            clear hQ hQ1 hlo hz hx hl hV hb h
            omega)
         | (refine ⟨_, rfl, ?_, Ch.au⟩
            rw [hQ]
            clear hQ hQ1 hlo hz hx hl hV hb
            (try unfold hasC at *)
            simp_all
            try omega)
      ·
       refine L_ps (L_ps (L_ps (L_ps ?_)))
       refine L_g (r_pf rfl rfl) (L_r (r_pf rfl rfl) (L_r (r_ab rfl) (L_nil (W_seq (W_region (L_r (r_ms rfl) ?_))))))
       refine L_call (.plain rfl) rfl rfl (r_call Tryz.func24 rfl rfl rfl (by rfl)) (scont_use _ _ _) ?_
       rintro v49 w70 ⟨rfl, rfl⟩
       refine L_r (r_not rfl) (L_r (r_mb rfl) ?_)
       refine L_caseb (d := 51) rfl (fun h51 => ?_) (fun h51 => ?_)
       ·
        refine L_ps (L_ps (L_ps (L_r (r_pt rfl rfl) (L_r (r_ab rfl) (L_nil (W_seq (W_region (L_r (r_mb rfl) ?_))))))))
        refine L_r (r_mb rfl) (L_ps (L_r (r_pf rfl rfl) (L_r (r_mb rfl) (L_ps (L_ps (L_ps (L_r (r_pf rfl rfl) (L_r (r_mb rfl) ?_))))))))
        refine L_ps (L_ps (L_ps (L_r (r_pf rfl rfl) (L_r (r_mb rfl) (L_ps (L_ps (L_ps (L_r (r_pf rfl rfl) ?_))))))))
        refine L_r (r_mb rfl) (L_ps (L_ps (L_ps (L_r (r_pf rfl rfl) (L_r (r_mb rfl) (L_ps (L_ps (L_ps ?_))))))))
        refine L_r (r_pf rfl rfl) (L_r (r_mb rfl) (L_ps (L_ps (L_ps (L_ps (L_r (r_pf rfl rfl) (L_r (r_ab rfl) (L_nil ?_))))))))
        refine W_ret ?_
        refine ret1 (v := .bool _) rfl rfl ?_
        first
        | (refine ⟨_, rfl, ⟨fun h => absurd h (by decide), fun h => ?_⟩, Ch.au⟩
           have k := hQ1.1 (hQ.1 h).1
           clear hQ hQ1 hlo hz hx hl hV hb h
           exfalso
           first
           | (rw [k.1] at h15; exact absurd h15 (by decide))
           | exact absurd (h33.symm.trans k.2.2.2) (by decide)
           | (simp [k.1] at h15; done)
           | (simp only [k.2.2.2] at h33; exact absurd h33 (by decide))
           | (simp_all; done)
           | omega)
        | (refine ⟨_, rfl, ⟨fun h => absurd h (by decide), fun h => ?_⟩, Ch.au⟩
           have k := hQ1.1 (hQ.1 h).1
           clear hQ hQ1 hlo hz hx hl hV hb h
           omega)
        | (refine ⟨_, rfl, ?_, Ch.au⟩
           rw [hQ]
           clear hQ hQ1 hlo hz hx hl hV hb
           (try unfold hasC at *)
           simp_all
           try omega)
       ·
        refine L_g (r_fieldb Tryz.underlying29 rfl (show _ = some 1 from rfl) rfl rfl (show _ = 8 from rfl)) ?_
        refine L_g (r_lb rfl rfl) ?_
        refine L_call (.yes 3 false rfl rfl) rfl rfl (r_call Tryz.func26 rfl rfl rfl (by rfl)) (class_walk _ _) ?_
        rintro v54 w71 ⟨rfl, c71⟩
        have hz71 := c71.size
        refine L_r (r_pf rfl rfl) (L_r (r_ab rfl) (L_nil (W_seq (W_region (L_r (r_mb rfl) (L_r (r_mb rfl) (L_ps (L_r (r_pf rfl rfl) ?_))))))))
        refine L_r (r_mb rfl) (L_ps (L_ps (L_ps (L_r (r_pf rfl rfl) (L_r (r_mb rfl) (L_ps (L_ps (L_ps ?_))))))))
        refine L_r (r_pf rfl rfl) (L_r (r_mb rfl) (L_ps (L_ps (L_ps (L_r (r_pf rfl rfl) (L_r (r_mb rfl) (L_ps (L_ps ?_))))))))
        refine L_ps (L_r (r_pf rfl rfl) (L_r (r_mb rfl) (L_ps (L_ps (L_ps (L_r (r_pf rfl rfl) (L_r (r_mb rfl) (L_ps ?_))))))))
        refine L_ps (L_ps (L_ps (L_r (r_pf rfl rfl) (L_r (r_ab rfl) (L_nil (W_ret ?_))))))
        refine ret1 (v := .bool _) rfl rfl ?_
        first
        | (refine ⟨_, rfl, ⟨fun h => absurd h (by decide), fun h => ?_⟩, Ch.au⟩
           have k := hQ1.1 (hQ.1 h).1
           clear hQ hQ1 hlo hz hx hl hV hb h
           exfalso
           first
           | (rw [k.1] at h15; exact absurd h15 (by decide))
           | exact absurd (h33.symm.trans k.2.2.2) (by decide)
           | (simp [k.1] at h15; done)
           | (simp only [k.2.2.2] at h33; exact absurd h33 (by decide))
           | (simp_all; done)
           | omega)
        | (refine ⟨_, rfl, ⟨fun h => absurd h (by decide), fun h => ?_⟩, Ch.au⟩
           have k := hQ1.1 (hQ.1 h).1
           clear hQ hQ1 hlo hz hx hl hV hb h
           omega)
        | (refine ⟨_, rfl, ?_, Ch.au⟩
           rw [hQ]
           clear hQ hQ1 hlo hz hx hl hV hb
           (try unfold hasC at *)
           simp_all
           try omega)
    ·
     refine D_g 17 rfl (fun W hW => r_fieldb Tryz.underlying29 rfl (show _ = some 1 from rfl) rfl rfl (show _ = 4 from rfl)) ?_
     refine D_g 18 rfl (fun W hW => r_loadb rfl rfl (by first | exact hW.1 | exact hW.2) (by first | assumption | (conv => lhs; simp only [List.getElem?_toArray, List.getElem?_cons_succ, List.getElem?_cons_zero]))) ?_
     refine D_ev 19 (by kernel_rfl) rfl ?_
     refine L_call (.yes 16 false rfl rfl) rfl rfl (r_call Tryz.func21 rfl rfl rfl (by rfl)) (cf_Va x.d.args x.va 22 [] (fun v => !decide (argP v)) _ (hx.nw Ch.au) hl ⟨_, _, Tryz.func22, rfl, rfl⟩ (fun v hv W k => sckc_walk v W)) ?_
     rintro v32 w72 ⟨rfl, c72⟩
     have hz72 := c72.size
     refine L_nil ?_
     refine heldK (by exact ⟨Bk.au, hx.nw Ch.au⟩) (fun hS => ?_)
     refine D_t 20 rfl (fun W hW => r_pf rfl rfl) ?_
     refine D_done (by kernel_rfl) ?_
     refine W_endF [1, 3] (fun f W => True ∧ (Q1 ∧ Bk W b1 x.row 29 ∧ Nw w0 W)) ?_ ?_
     ·
      refine W_bool rfl (fun h33 => ?_) (fun h33 => ?_)
      ·
       refine W_seq (W_region (L_r (r_ab rfl) (L_nil (W_ret ?_))))
       refine ret1 (v := .bool _) rfl rfl ?_
       first
       | (refine ⟨_, rfl, ⟨fun h => absurd h (by decide), fun h => ?_⟩, Ch.au⟩
          have k := hQ1.1 (hQ.1 h).1
          clear hQ hQ1 hlo hz hx hl hV hb h
          exfalso
          first
          | (rw [k.1] at h15; exact absurd h15 (by decide))
          | exact absurd (h33.symm.trans k.2.2.2) (by decide)
          | (simp [k.1] at h15; done)
          | (simp only [k.2.2.2] at h33; exact absurd h33 (by decide))
          | (simp_all; done)
          | omega)
       | (refine ⟨_, rfl, ⟨fun h => absurd h (by decide), fun h => ?_⟩, Ch.au⟩
          have k := hQ1.1 (hQ.1 h).1
          clear hQ hQ1 hlo hz hx hl hV hb h
          omega)
       | (refine ⟨_, rfl, ?_, Ch.au⟩
          rw [hQ]
          clear hQ hQ1 hlo hz hx hl hV hb
          (try unfold hasC at *)
          simp_all
          try omega)
      ·
       refine W_skip ?_
       refine ⟨⟨fx2, fx2, trivial⟩, trivial, ?_⟩
       refine ⟨hQ1.2 ?_, Bk.au, Ch.au⟩
       clear hQ hQ1 hlo hz hx hl hV hb
       simp_all
       try omega
     rintro gct33 w73 ⟨-, hCt33⟩
     obtain ⟨hq1, hkb, hnw⟩ := hCt33
     have hzz := hnw.size
     refine W_seq (W_region (L_r (r_ms rfl) ?_))
     refine L_call (.plain rfl) rfl rfl (r_call Tryz.func24 rfl rfl rfl (by rfl)) (scont_use _ _ _) ?_
     rintro v35 w74 ⟨rfl, rfl⟩
     refine L_r (r_not rfl) (L_r (r_mb rfl) ?_)
     refine L_caseb (d := 37) rfl (fun h37 => ?_) (fun h37 => ?_)
     ·
      refine L_ps (L_ps (L_ps (L_ps ?_)))
      refine L_pu ?_
      refine L_pu ?_
      refine L_pu ?_
      refine L_pu (L_ps (L_r (r_pt rfl rfl) (L_r (r_ab rfl) (L_nil (W_seq (W_region (L_r (r_ms rfl) ?_)))))))
      refine L_call (.plain rfl) rfl rfl (r_call Tryz.func24 rfl rfl rfl (by rfl)) (scont_use _ _ _) ?_
      rintro v49 w75 ⟨rfl, rfl⟩
      refine L_r (r_not rfl) (L_r (r_mb rfl) ?_)
      refine L_caseb (d := 51) rfl (fun h51 => ?_) (fun h51 => ?_)
      ·
       refine L_ps (L_ps (L_ps (L_r (r_pt rfl rfl) (L_r (r_ab rfl) (L_nil (W_seq (W_region (L_r (r_mb rfl) ?_))))))))
       refine L_r (r_mb rfl) ?_
       refine L_g (r_mb rfl) (L_r (r_pt rfl rfl) (L_r (r_mb rfl) ?_))
       refine L_g (r_fieldb Tryz.underlying29 rfl (show _ = some 1 from rfl) rfl rfl (show _ = 1 from rfl)) ?_
       refine L_g (r_lb rfl rfl) ?_
       refine L_g (r_geq rfl rfl) (L_r (r_pt rfl rfl) (L_r (r_mb rfl) ?_))
       refine L_case (d := 65) rfl (fun h65 => ?_) (fun h65 => ?_)
       ·
        refine L_g (r_fieldb Tryz.underlying29 rfl (show _ = some 1 from rfl) rfl rfl (show _ = 1 from rfl)) ?_
        refine L_g (r_lb rfl rfl) ?_
        refine L_g (r_leq rfl rfl) (L_r (r_pt rfl rfl) (L_r (r_mb rfl) ?_))
        refine L_case (d := 70) rfl (fun h70 => ?_) (fun h70 => ?_)
        ·
         refine L_g (r_fieldb Tryz.underlying29 rfl (show _ = some 1 from rfl) rfl rfl (show _ = 5 from rfl)) ?_
         refine L_g (r_lb rfl rfl) ?_
         refine L_call (.yes 14 true rfl rfl) rfl rfl (r_call Tryz.func27 rfl rfl rfl (by rfl)) (ssmall_walk _ _) ?_
         rintro v73 w76 ⟨rfl, c76⟩
         have hz76 := c76.size
         refine L_r (r_pt rfl rfl) (L_r (r_mb rfl) ?_)
         refine L_caseb (d := 75) rfl (fun h75 => ?_) (fun h75 => ?_)
         ·
          refine L_g (r_fieldb Tryz.underlying29 rfl (show _ = some 1 from rfl) rfl rfl (show _ = 6 from rfl)) ?_
          refine L_g (r_lb rfl rfl) ?_
          refine L_call (.yes 19 true rfl rfl) rfl rfl (r_call Tryz.func27 rfl rfl rfl (by rfl)) (ssmall_walk _ _) ?_
          rintro v78 w77 ⟨rfl, c77⟩
          have hz77 := c77.size
          refine L_r (r_pt rfl rfl) (L_r (r_mb rfl) ?_)
          refine L_caseb (d := 80) rfl (fun h80 => ?_) (fun h80 => ?_)
          ·
           refine L_g (r_fieldb Tryz.underlying29 rfl (show _ = some 1 from rfl) rfl rfl (show _ = 7 from rfl)) ?_
           refine L_g (r_lb rfl rfl) ?_
           refine L_call (.yes 24 true rfl rfl) rfl rfl (r_call Tryz.func27 rfl rfl rfl (by rfl)) (ssmall_walk _ _) ?_
           rintro v83 w78 ⟨rfl, c78⟩
           have hz78 := c78.size
           refine L_r (r_pt rfl rfl) (L_r (r_mb rfl) ?_)
           refine L_caseb (d := 85) rfl (fun h85 => ?_) (fun h85 => ?_)
           ·
            refine L_g (r_fieldb Tryz.underlying29 rfl (show _ = some 1 from rfl) rfl rfl (show _ = 9 from rfl)) ?_
            refine L_g (r_lb rfl rfl) ?_
            refine L_g (r_lens Tryz.underlying9 rfl) ?_
            refine L_g (r_leq rfl rfl) (L_r (r_pt rfl rfl) (L_r (r_ab rfl) (L_nil (W_ret ?_))))
            refine ret1 (v := .bool _) rfl rfl ?_
            first
            | (refine ⟨_, rfl, ⟨fun h => absurd h (by decide), fun h => ?_⟩, Ch.au⟩
               have k := hQ1.1 (hQ.1 h).1
               clear hQ hQ1 hlo hz hx hl hV hb h
               exfalso
               first
               | (rw [k.1] at h15; exact absurd h15 (by decide))
               | exact absurd (h33.symm.trans k.2.2.2) (by decide)
               | (simp [k.1] at h15; done)
               | (simp only [k.2.2.2] at h33; exact absurd h33 (by decide))
               | (simp_all; done)
               | omega)
            | (refine ⟨_, rfl, ⟨fun h => absurd h (by decide), fun h => ?_⟩, Ch.au⟩
               have k := hQ1.1 (hQ.1 h).1
               clear hQ hQ1 hlo hz hx hl hV hb h
               omega)
            | (refine ⟨_, rfl, ?_, Ch.au⟩
               rw [hQ]
               clear hQ hQ1 hlo hz hx hl hV hb
               (try unfold hasC at *)
               simp_all
               try omega)
           ·
            refine L_ps (L_ps (L_ps (L_ps (L_r (r_pf rfl rfl) (L_r (r_ab rfl) (L_nil (W_ret ?_)))))))
            refine ret1 (v := .bool _) rfl rfl ?_
            first
            | (refine ⟨_, rfl, ⟨fun h => absurd h (by decide), fun h => ?_⟩, Ch.au⟩
               have k := hQ1.1 (hQ.1 h).1
               clear hQ hQ1 hlo hz hx hl hV hb h
               exfalso
               first
               | (rw [k.1] at h15; exact absurd h15 (by decide))
               | exact absurd (h33.symm.trans k.2.2.2) (by decide)
               | (simp [k.1] at h15; done)
               | (simp only [k.2.2.2] at h33; exact absurd h33 (by decide))
               | (simp_all; done)
               | omega)
            | (refine ⟨_, rfl, ⟨fun h => absurd h (by decide), fun h => ?_⟩, Ch.au⟩
               have k := hQ1.1 (hQ.1 h).1
               clear hQ hQ1 hlo hz hx hl hV hb h
               omega)
            | (refine ⟨_, rfl, ?_, Ch.au⟩
               rw [hQ]
               clear hQ hQ1 hlo hz hx hl hV hb
               (try unfold hasC at *)
               simp_all
               try omega)
          ·
           refine L_ps (L_ps (L_ps (L_r (r_pf rfl rfl) (L_r (r_mb rfl) (L_ps (L_ps (L_ps (L_ps ?_))))))))
           refine L_r (r_pf rfl rfl) (L_r (r_ab rfl) (L_nil (W_ret ?_)))
           refine ret1 (v := .bool _) rfl rfl ?_
           first
           | (refine ⟨_, rfl, ⟨fun h => absurd h (by decide), fun h => ?_⟩, Ch.au⟩
              have k := hQ1.1 (hQ.1 h).1
              clear hQ hQ1 hlo hz hx hl hV hb h
              exfalso
              first
              | (rw [k.1] at h15; exact absurd h15 (by decide))
              | exact absurd (h33.symm.trans k.2.2.2) (by decide)
              | (simp [k.1] at h15; done)
              | (simp only [k.2.2.2] at h33; exact absurd h33 (by decide))
              | (simp_all; done)
              | omega)
           | (refine ⟨_, rfl, ⟨fun h => absurd h (by decide), fun h => ?_⟩, Ch.au⟩
              have k := hQ1.1 (hQ.1 h).1
              clear hQ hQ1 hlo hz hx hl hV hb h
              omega)
           | (refine ⟨_, rfl, ?_, Ch.au⟩
              rw [hQ]
              clear hQ hQ1 hlo hz hx hl hV hb
              (try unfold hasC at *)
              simp_all
              try omega)
         ·
          refine L_ps (L_ps (L_ps (L_r (r_pf rfl rfl) (L_r (r_mb rfl) (L_ps (L_ps (L_ps (L_r (r_pf rfl rfl) ?_))))))))
          refine L_r (r_mb rfl) (L_ps (L_ps (L_ps (L_ps (L_r (r_pf rfl rfl) (L_r (r_ab rfl) (L_nil (W_ret ?_))))))))
          refine ret1 (v := .bool _) rfl rfl ?_
          first
          | (refine ⟨_, rfl, ⟨fun h => absurd h (by decide), fun h => ?_⟩, Ch.au⟩
             have k := hQ1.1 (hQ.1 h).1
             clear hQ hQ1 hlo hz hx hl hV hb h
             exfalso
             first
             | (rw [k.1] at h15; exact absurd h15 (by decide))
             | exact absurd (h33.symm.trans k.2.2.2) (by decide)
             | (simp [k.1] at h15; done)
             | (simp only [k.2.2.2] at h33; exact absurd h33 (by decide))
             | (simp_all; done)
             | omega)
          | (refine ⟨_, rfl, ⟨fun h => absurd h (by decide), fun h => ?_⟩, Ch.au⟩
             have k := hQ1.1 (hQ.1 h).1
             clear hQ hQ1 hlo hz hx hl hV hb h
             omega)
          | (refine ⟨_, rfl, ?_, Ch.au⟩
             rw [hQ]
             clear hQ hQ1 hlo hz hx hl hV hb
             (try unfold hasC at *)
             simp_all
             try omega)
        ·
         refine L_ps (L_ps (L_ps (L_r (r_pf rfl rfl) (L_r (r_mb rfl) (L_ps (L_ps (L_ps (L_r (r_pf rfl rfl) ?_))))))))
         refine L_r (r_mb rfl) (L_ps (L_ps (L_ps (L_r (r_pf rfl rfl) (L_r (r_mb rfl) (L_ps (L_ps (L_ps ?_))))))))
         refine L_ps (L_r (r_pf rfl rfl) (L_r (r_ab rfl) (L_nil (W_ret ?_))))
         refine ret1 (v := .bool _) rfl rfl ?_
         first
         | (refine ⟨_, rfl, ⟨fun h => absurd h (by decide), fun h => ?_⟩, Ch.au⟩
            have k := hQ1.1 (hQ.1 h).1
            clear hQ hQ1 hlo hz hx hl hV hb h
            exfalso
            first
            | (rw [k.1] at h15; exact absurd h15 (by decide))
            | exact absurd (h33.symm.trans k.2.2.2) (by decide)
            | (simp [k.1] at h15; done)
            | (simp only [k.2.2.2] at h33; exact absurd h33 (by decide))
            | (simp_all; done)
            | omega)
         | (refine ⟨_, rfl, ⟨fun h => absurd h (by decide), fun h => ?_⟩, Ch.au⟩
            have k := hQ1.1 (hQ.1 h).1
            clear hQ hQ1 hlo hz hx hl hV hb h
            omega)
         | (refine ⟨_, rfl, ?_, Ch.au⟩
            rw [hQ]
            clear hQ hQ1 hlo hz hx hl hV hb
            (try unfold hasC at *)
            simp_all
            try omega)
       ·
        refine L_ps (L_ps (L_ps (L_r (r_pf rfl rfl) (L_r (r_mb rfl) (L_ps (L_ps (L_ps (L_r (r_pf rfl rfl) ?_))))))))
        refine L_r (r_mb rfl) (L_ps (L_ps (L_ps (L_r (r_pf rfl rfl) (L_r (r_mb rfl) (L_ps (L_ps (L_ps ?_))))))))
        refine L_r (r_pf rfl rfl) (L_r (r_mb rfl) (L_ps (L_ps (L_ps (L_ps (L_r (r_pf rfl rfl) (L_r (r_ab rfl) (L_nil ?_))))))))
        refine W_ret ?_
        refine ret1 (v := .bool _) rfl rfl ?_
        first
        | (refine ⟨_, rfl, ⟨fun h => absurd h (by decide), fun h => ?_⟩, Ch.au⟩
           have k := hQ1.1 (hQ.1 h).1
           clear hQ hQ1 hlo hz hx hl hV hb h
           exfalso
           first
           | (rw [k.1] at h15; exact absurd h15 (by decide))
           | exact absurd (h33.symm.trans k.2.2.2) (by decide)
           | (simp [k.1] at h15; done)
           | (simp only [k.2.2.2] at h33; exact absurd h33 (by decide))
           | (simp_all; done)
           | omega)
        | (refine ⟨_, rfl, ⟨fun h => absurd h (by decide), fun h => ?_⟩, Ch.au⟩
           have k := hQ1.1 (hQ.1 h).1
           clear hQ hQ1 hlo hz hx hl hV hb h
           omega)
        | (refine ⟨_, rfl, ?_, Ch.au⟩
           rw [hQ]
           clear hQ hQ1 hlo hz hx hl hV hb
           (try unfold hasC at *)
           simp_all
           try omega)
      ·
       refine L_g (r_fieldb Tryz.underlying29 rfl (show _ = some 1 from rfl) rfl rfl (show _ = 8 from rfl)) ?_
       refine L_g (r_lb rfl rfl) ?_
       refine L_call (.yes 3 false rfl rfl) rfl rfl (r_call Tryz.func26 rfl rfl rfl (by rfl)) (class_walk _ _) ?_
       rintro v54 w79 ⟨rfl, c79⟩
       have hz79 := c79.size
       refine L_r (r_pf rfl rfl) (L_r (r_ab rfl) (L_nil (W_seq (W_region (L_r (r_mb rfl) (L_r (r_mb rfl) ?_))))))
       refine L_g (r_mb rfl) (L_r (r_pt rfl rfl) (L_r (r_mb rfl) ?_))
       refine L_caseb (d := 60) rfl (fun h60 => ?_) (fun h60 => ?_)
       ·
        refine L_g (r_fieldb Tryz.underlying29 rfl (show _ = some 1 from rfl) rfl rfl (show _ = 1 from rfl)) ?_
        refine L_g (r_lb rfl rfl) ?_
        refine L_g (r_geq rfl rfl) (L_r (r_pt rfl rfl) (L_r (r_mb rfl) ?_))
        refine L_case (d := 65) rfl (fun h65 => ?_) (fun h65 => ?_)
        ·
         refine L_g (r_fieldb Tryz.underlying29 rfl (show _ = some 1 from rfl) rfl rfl (show _ = 1 from rfl)) ?_
         refine L_g (r_lb rfl rfl) ?_
         refine L_g (r_leq rfl rfl) (L_r (r_pt rfl rfl) (L_r (r_mb rfl) ?_))
         refine L_case (d := 70) rfl (fun h70 => ?_) (fun h70 => ?_)
         ·
          refine L_g (r_fieldb Tryz.underlying29 rfl (show _ = some 1 from rfl) rfl rfl (show _ = 5 from rfl)) ?_
          refine L_g (r_lb rfl rfl) ?_
          refine L_call (.yes 14 true rfl rfl) rfl rfl (r_call Tryz.func27 rfl rfl rfl (by rfl)) (ssmall_walk _ _) ?_
          rintro v73 w80 ⟨rfl, c80⟩
          have hz80 := c80.size
          refine L_r (r_pt rfl rfl) (L_r (r_mb rfl) ?_)
          refine L_caseb (d := 75) rfl (fun h75 => ?_) (fun h75 => ?_)
          ·
           refine L_g (r_fieldb Tryz.underlying29 rfl (show _ = some 1 from rfl) rfl rfl (show _ = 6 from rfl)) ?_
           refine L_g (r_lb rfl rfl) ?_
           refine L_call (.yes 19 true rfl rfl) rfl rfl (r_call Tryz.func27 rfl rfl rfl (by rfl)) (ssmall_walk _ _) ?_
           rintro v78 w81 ⟨rfl, c81⟩
           have hz81 := c81.size
           refine L_r (r_pt rfl rfl) (L_r (r_mb rfl) ?_)
           refine L_caseb (d := 80) rfl (fun h80 => ?_) (fun h80 => ?_)
           ·
            refine L_g (r_fieldb Tryz.underlying29 rfl (show _ = some 1 from rfl) rfl rfl (show _ = 7 from rfl)) ?_
            refine L_g (r_lb rfl rfl) ?_
            refine L_call (.yes 24 true rfl rfl) rfl rfl (r_call Tryz.func27 rfl rfl rfl (by rfl)) (ssmall_walk _ _) ?_
            rintro v83 w82 ⟨rfl, c82⟩
            have hz82 := c82.size
            refine L_r (r_pt rfl rfl) (L_r (r_mb rfl) ?_)
            refine L_caseb (d := 85) rfl (fun h85 => ?_) (fun h85 => ?_)
            ·
             refine L_g (r_fieldb Tryz.underlying29 rfl (show _ = some 1 from rfl) rfl rfl (show _ = 9 from rfl)) ?_
             refine L_g (r_lb rfl rfl) ?_
             refine L_g (r_lens Tryz.underlying9 rfl) ?_
             refine L_g (r_leq rfl rfl) (L_r (r_pt rfl rfl) (L_r (r_ab rfl) (L_nil (W_ret ?_))))
             refine ret1 (v := .bool _) rfl rfl ?_
             first
             | (refine ⟨_, rfl, ⟨fun h => absurd h (by decide), fun h => ?_⟩, Ch.au⟩
                have k := hQ1.1 (hQ.1 h).1
                clear hQ hQ1 hlo hz hx hl hV hb h
                exfalso
                first
                | (rw [k.1] at h15; exact absurd h15 (by decide))
                | exact absurd (h33.symm.trans k.2.2.2) (by decide)
                | (simp [k.1] at h15; done)
                | (simp only [k.2.2.2] at h33; exact absurd h33 (by decide))
                | (simp_all; done)
                | omega)
             | (refine ⟨_, rfl, ⟨fun h => absurd h (by decide), fun h => ?_⟩, Ch.au⟩
                have k := hQ1.1 (hQ.1 h).1
                clear hQ hQ1 hlo hz hx hl hV hb h
                omega)
             | (refine ⟨_, rfl, ?_, Ch.au⟩
                rw [hQ]
                clear hQ hQ1 hlo hz hx hl hV hb
                (try unfold hasC at *)
                simp_all
                try omega)
            ·
             refine L_ps (L_ps (L_ps (L_ps (L_r (r_pf rfl rfl) (L_r (r_ab rfl) (L_nil (W_ret ?_)))))))
             refine ret1 (v := .bool _) rfl rfl ?_
             first
             | (refine ⟨_, rfl, ⟨fun h => absurd h (by decide), fun h => ?_⟩, Ch.au⟩
                have k := hQ1.1 (hQ.1 h).1
                clear hQ hQ1 hlo hz hx hl hV hb h
                exfalso
                first
                | (rw [k.1] at h15; exact absurd h15 (by decide))
                | exact absurd (h33.symm.trans k.2.2.2) (by decide)
                | (simp [k.1] at h15; done)
                | (simp only [k.2.2.2] at h33; exact absurd h33 (by decide))
                | (simp_all; done)
                | omega)
             | (refine ⟨_, rfl, ⟨fun h => absurd h (by decide), fun h => ?_⟩, Ch.au⟩
                have k := hQ1.1 (hQ.1 h).1
                clear hQ hQ1 hlo hz hx hl hV hb h
                omega)
             | (refine ⟨_, rfl, ?_, Ch.au⟩
                rw [hQ]
                clear hQ hQ1 hlo hz hx hl hV hb
                (try unfold hasC at *)
                simp_all
                try omega)
           ·
            refine L_ps (L_ps (L_ps (L_r (r_pf rfl rfl) (L_r (r_mb rfl) (L_ps (L_ps (L_ps (L_ps ?_))))))))
            refine L_r (r_pf rfl rfl) (L_r (r_ab rfl) (L_nil (W_ret ?_)))
            refine ret1 (v := .bool _) rfl rfl ?_
            first
            | (refine ⟨_, rfl, ⟨fun h => absurd h (by decide), fun h => ?_⟩, Ch.au⟩
               have k := hQ1.1 (hQ.1 h).1
               clear hQ hQ1 hlo hz hx hl hV hb h
               exfalso
               first
               | (rw [k.1] at h15; exact absurd h15 (by decide))
               | exact absurd (h33.symm.trans k.2.2.2) (by decide)
               | (simp [k.1] at h15; done)
               | (simp only [k.2.2.2] at h33; exact absurd h33 (by decide))
               | (simp_all; done)
               | omega)
            | (refine ⟨_, rfl, ⟨fun h => absurd h (by decide), fun h => ?_⟩, Ch.au⟩
               have k := hQ1.1 (hQ.1 h).1
               clear hQ hQ1 hlo hz hx hl hV hb h
               omega)
            | (refine ⟨_, rfl, ?_, Ch.au⟩
               rw [hQ]
               clear hQ hQ1 hlo hz hx hl hV hb
               (try unfold hasC at *)
               simp_all
               try omega)
          ·
           refine L_ps (L_ps (L_ps (L_r (r_pf rfl rfl) (L_r (r_mb rfl) (L_ps (L_ps (L_ps (L_r (r_pf rfl rfl) ?_))))))))
           refine L_r (r_mb rfl) (L_ps (L_ps (L_ps (L_ps (L_r (r_pf rfl rfl) (L_r (r_ab rfl) (L_nil (W_ret ?_))))))))
           refine ret1 (v := .bool _) rfl rfl ?_
           first
           | (refine ⟨_, rfl, ⟨fun h => absurd h (by decide), fun h => ?_⟩, Ch.au⟩
              have k := hQ1.1 (hQ.1 h).1
              clear hQ hQ1 hlo hz hx hl hV hb h
              exfalso
              first
              | (rw [k.1] at h15; exact absurd h15 (by decide))
              | exact absurd (h33.symm.trans k.2.2.2) (by decide)
              | (simp [k.1] at h15; done)
              | (simp only [k.2.2.2] at h33; exact absurd h33 (by decide))
              | (simp_all; done)
              | omega)
           | (refine ⟨_, rfl, ⟨fun h => absurd h (by decide), fun h => ?_⟩, Ch.au⟩
              have k := hQ1.1 (hQ.1 h).1
              clear hQ hQ1 hlo hz hx hl hV hb h
              omega)
           | (refine ⟨_, rfl, ?_, Ch.au⟩
              rw [hQ]
              clear hQ hQ1 hlo hz hx hl hV hb
              (try unfold hasC at *)
              simp_all
              try omega)
         ·
          refine L_ps (L_ps (L_ps (L_r (r_pf rfl rfl) (L_r (r_mb rfl) (L_ps (L_ps (L_ps (L_r (r_pf rfl rfl) ?_))))))))
          refine L_r (r_mb rfl) (L_ps (L_ps (L_ps (L_r (r_pf rfl rfl) (L_r (r_mb rfl) (L_ps (L_ps (L_ps ?_))))))))
          refine L_ps (L_r (r_pf rfl rfl) (L_r (r_ab rfl) (L_nil (W_ret ?_))))
          refine ret1 (v := .bool _) rfl rfl ?_
          first
          | (refine ⟨_, rfl, ⟨fun h => absurd h (by decide), fun h => ?_⟩, Ch.au⟩
             have k := hQ1.1 (hQ.1 h).1
             clear hQ hQ1 hlo hz hx hl hV hb h
             exfalso
             first
             | (rw [k.1] at h15; exact absurd h15 (by decide))
             | exact absurd (h33.symm.trans k.2.2.2) (by decide)
             | (simp [k.1] at h15; done)
             | (simp only [k.2.2.2] at h33; exact absurd h33 (by decide))
             | (simp_all; done)
             | omega)
          | (refine ⟨_, rfl, ⟨fun h => absurd h (by decide), fun h => ?_⟩, Ch.au⟩
             have k := hQ1.1 (hQ.1 h).1
             clear hQ hQ1 hlo hz hx hl hV hb h
             omega)
          | (refine ⟨_, rfl, ?_, Ch.au⟩
             rw [hQ]
             clear hQ hQ1 hlo hz hx hl hV hb
             (try unfold hasC at *)
             simp_all
             try omega)
        ·
         refine L_ps (L_ps (L_ps (L_r (r_pf rfl rfl) (L_r (r_mb rfl) (L_ps (L_ps (L_ps (L_r (r_pf rfl rfl) ?_))))))))
         refine L_r (r_mb rfl) (L_ps (L_ps (L_ps (L_r (r_pf rfl rfl) (L_r (r_mb rfl) (L_ps (L_ps (L_ps ?_))))))))
         refine L_r (r_pf rfl rfl) (L_r (r_mb rfl) (L_ps (L_ps (L_ps (L_ps (L_r (r_pf rfl rfl) (L_r (r_ab rfl) (L_nil ?_))))))))
         refine W_ret ?_
         refine ret1 (v := .bool _) rfl rfl ?_
         first
         | (refine ⟨_, rfl, ⟨fun h => absurd h (by decide), fun h => ?_⟩, Ch.au⟩
            have k := hQ1.1 (hQ.1 h).1
            clear hQ hQ1 hlo hz hx hl hV hb h
            exfalso
            first
            | (rw [k.1] at h15; exact absurd h15 (by decide))
            | exact absurd (h33.symm.trans k.2.2.2) (by decide)
            | (simp [k.1] at h15; done)
            | (simp only [k.2.2.2] at h33; exact absurd h33 (by decide))
            | (simp_all; done)
            | omega)
         | (refine ⟨_, rfl, ⟨fun h => absurd h (by decide), fun h => ?_⟩, Ch.au⟩
            have k := hQ1.1 (hQ.1 h).1
            clear hQ hQ1 hlo hz hx hl hV hb h
            omega)
         | (refine ⟨_, rfl, ?_, Ch.au⟩
            rw [hQ]
            clear hQ hQ1 hlo hz hx hl hV hb
            (try unfold hasC at *)
            simp_all
            try omega)
       ·
        refine L_ps (L_ps (L_ps (L_r (r_pf rfl rfl) (L_r (r_mb rfl) (L_ps (L_ps (L_ps (L_r (r_pf rfl rfl) ?_))))))))
        refine L_r (r_mb rfl) (L_ps (L_ps (L_ps (L_r (r_pf rfl rfl) (L_r (r_mb rfl) (L_ps (L_ps (L_ps ?_))))))))
        refine L_r (r_pf rfl rfl) (L_r (r_mb rfl) (L_ps (L_ps (L_ps (L_r (r_pf rfl rfl) (L_r (r_mb rfl) (L_ps (L_ps ?_))))))))
        refine L_ps (L_ps (L_r (r_pf rfl rfl) (L_r (r_ab rfl) (L_nil (W_ret ?_)))))
        refine ret1 (v := .bool _) rfl rfl ?_
        first
        | (refine ⟨_, rfl, ⟨fun h => absurd h (by decide), fun h => ?_⟩, Ch.au⟩
           have k := hQ1.1 (hQ.1 h).1
           clear hQ hQ1 hlo hz hx hl hV hb h
           exfalso
           first
           | (rw [k.1] at h15; exact absurd h15 (by decide))
           | exact absurd (h33.symm.trans k.2.2.2) (by decide)
           | (simp [k.1] at h15; done)
           | (simp only [k.2.2.2] at h33; exact absurd h33 (by decide))
           | (simp_all; done)
           | omega)
        | (refine ⟨_, rfl, ⟨fun h => absurd h (by decide), fun h => ?_⟩, Ch.au⟩
           have k := hQ1.1 (hQ.1 h).1
           clear hQ hQ1 hlo hz hx hl hV hb h
           omega)
        | (refine ⟨_, rfl, ?_, Ch.au⟩
           rw [hQ]
           clear hQ hQ1 hlo hz hx hl hV hb
           (try unfold hasC at *)
           simp_all
           try omega)
     ·
      refine L_g (r_fieldb Tryz.underlying29 rfl (show _ = some 1 from rfl) rfl rfl (show _ = 3 from rfl)) ?_
      refine L_g (r_lb rfl rfl) ?_
      refine L_call (.yes 3 false rfl rfl) rfl rfl (r_call Tryz.func25 rfl rfl rfl (by rfl)) (name_walk _ _) ?_
      rintro v40 w83 ⟨rfl, c83⟩
      have hz83 := c83.size
      refine L_g (r_mb rfl) ?_
      refine L_caseb (d := 41) rfl (fun h41 => ?_) (fun h41 => ?_)
      ·
       refine L_g (r_fieldb Tryz.underlying29 rfl (show _ = some 1 from rfl) rfl rfl (show _ = 3 from rfl)) ?_
       refine L_g (r_lb rfl rfl) ?_
       refine L_call (.yes 7 true rfl rfl) rfl rfl (r_call Tryz.func26 rfl rfl rfl (by rfl)) (class_walk _ _) ?_
       rintro v44 w84 ⟨rfl, c84⟩
       have hz84 := c84.size
       refine L_g (r_not rfl) ?_
       refine L_g (r_pt rfl rfl) (L_r (r_pf rfl rfl) (L_r (r_ab rfl) (L_nil (W_seq (W_region (L_r (r_ms rfl) ?_))))))
       refine L_call (.plain rfl) rfl rfl (r_call Tryz.func24 rfl rfl rfl (by rfl)) (scont_use _ _ _) ?_
       rintro v49 w85 ⟨rfl, rfl⟩
       refine L_r (r_not rfl) (L_r (r_mb rfl) ?_)
       refine L_caseb (d := 51) rfl (fun h51 => ?_) (fun h51 => ?_)
       ·
        refine L_ps (L_ps (L_ps (L_r (r_pt rfl rfl) (L_r (r_ab rfl) (L_nil (W_seq (W_region (L_r (r_mb rfl) ?_))))))))
        refine L_r (r_mb rfl) ?_
        refine L_caseb (d := 57) rfl (fun h57 => ?_) (fun h57 => ?_)
        ·
         refine L_g (r_mb rfl) (L_r (r_pt rfl rfl) (L_r (r_mb rfl) ?_))
         refine L_g (r_fieldb Tryz.underlying29 rfl (show _ = some 1 from rfl) rfl rfl (show _ = 1 from rfl)) ?_
         refine L_g (r_lb rfl rfl) ?_
         refine L_g (r_geq rfl rfl) (L_r (r_pt rfl rfl) (L_r (r_mb rfl) ?_))
         refine L_case (d := 65) rfl (fun h65 => ?_) (fun h65 => ?_)
         ·
          refine L_g (r_fieldb Tryz.underlying29 rfl (show _ = some 1 from rfl) rfl rfl (show _ = 1 from rfl)) ?_
          refine L_g (r_lb rfl rfl) ?_
          refine L_g (r_leq rfl rfl) (L_r (r_pt rfl rfl) (L_r (r_mb rfl) ?_))
          refine L_case (d := 70) rfl (fun h70 => ?_) (fun h70 => ?_)
          ·
           refine L_g (r_fieldb Tryz.underlying29 rfl (show _ = some 1 from rfl) rfl rfl (show _ = 5 from rfl)) ?_
           refine L_g (r_lb rfl rfl) ?_
           refine L_call (.yes 14 true rfl rfl) rfl rfl (r_call Tryz.func27 rfl rfl rfl (by rfl)) (ssmall_walk _ _) ?_
           rintro v73 w86 ⟨rfl, c86⟩
           have hz86 := c86.size
           refine L_r (r_pt rfl rfl) (L_r (r_mb rfl) ?_)
           refine L_caseb (d := 75) rfl (fun h75 => ?_) (fun h75 => ?_)
           ·
            refine L_g (r_fieldb Tryz.underlying29 rfl (show _ = some 1 from rfl) rfl rfl (show _ = 6 from rfl)) ?_
            refine L_g (r_lb rfl rfl) ?_
            refine L_call (.yes 19 true rfl rfl) rfl rfl (r_call Tryz.func27 rfl rfl rfl (by rfl)) (ssmall_walk _ _) ?_
            rintro v78 w87 ⟨rfl, c87⟩
            have hz87 := c87.size
            refine L_r (r_pt rfl rfl) (L_r (r_mb rfl) ?_)
            refine L_caseb (d := 80) rfl (fun h80 => ?_) (fun h80 => ?_)
            ·
             refine L_g (r_fieldb Tryz.underlying29 rfl (show _ = some 1 from rfl) rfl rfl (show _ = 7 from rfl)) ?_
             refine L_g (r_lb rfl rfl) ?_
             refine L_call (.yes 24 true rfl rfl) rfl rfl (r_call Tryz.func27 rfl rfl rfl (by rfl)) (ssmall_walk _ _) ?_
             rintro v83 w88 ⟨rfl, c88⟩
             have hz88 := c88.size
             refine L_r (r_pt rfl rfl) (L_r (r_mb rfl) ?_)
             refine L_caseb (d := 85) rfl (fun h85 => ?_) (fun h85 => ?_)
             ·
              refine L_g (r_fieldb Tryz.underlying29 rfl (show _ = some 1 from rfl) rfl rfl (show _ = 9 from rfl)) ?_
              refine L_g (r_lb rfl rfl) ?_
              refine L_g (r_lens Tryz.underlying9 rfl) ?_
              refine L_g (r_leq rfl rfl) (L_r (r_pt rfl rfl) (L_r (r_ab rfl) (L_nil (W_ret ?_))))
              refine ret1 (v := .bool _) rfl rfl ?_
              first
              | (refine ⟨_, rfl, ⟨fun h => absurd h (by decide), fun h => ?_⟩, Ch.au⟩
                 have k := hQ1.1 (hQ.1 h).1
                 clear hQ hQ1 hlo hz hx hl hV hb h
                 exfalso
                 first
                 | (rw [k.1] at h15; exact absurd h15 (by decide))
                 | exact absurd (h33.symm.trans k.2.2.2) (by decide)
                 | (simp [k.1] at h15; done)
                 | (simp only [k.2.2.2] at h33; exact absurd h33 (by decide))
                 | (simp_all; done)
                 | omega)
              | (refine ⟨_, rfl, ⟨fun h => absurd h (by decide), fun h => ?_⟩, Ch.au⟩
                 have k := hQ1.1 (hQ.1 h).1
                 clear hQ hQ1 hlo hz hx hl hV hb h
                 omega)
              | (refine ⟨_, rfl, ?_, Ch.au⟩
                 rw [hQ]
                 clear hQ hQ1 hlo hz hx hl hV hb
                 (try unfold hasC at *)
                 simp_all
                 try omega)
             ·
              refine L_ps (L_ps (L_ps (L_ps (L_r (r_pf rfl rfl) (L_r (r_ab rfl) (L_nil (W_ret ?_)))))))
              refine ret1 (v := .bool _) rfl rfl ?_
              first
              | (refine ⟨_, rfl, ⟨fun h => absurd h (by decide), fun h => ?_⟩, Ch.au⟩
                 have k := hQ1.1 (hQ.1 h).1
                 clear hQ hQ1 hlo hz hx hl hV hb h
                 exfalso
                 first
                 | (rw [k.1] at h15; exact absurd h15 (by decide))
                 | exact absurd (h33.symm.trans k.2.2.2) (by decide)
                 | (simp [k.1] at h15; done)
                 | (simp only [k.2.2.2] at h33; exact absurd h33 (by decide))
                 | (simp_all; done)
                 | omega)
              | (refine ⟨_, rfl, ⟨fun h => absurd h (by decide), fun h => ?_⟩, Ch.au⟩
                 have k := hQ1.1 (hQ.1 h).1
                 clear hQ hQ1 hlo hz hx hl hV hb h
                 omega)
              | (refine ⟨_, rfl, ?_, Ch.au⟩
                 rw [hQ]
                 clear hQ hQ1 hlo hz hx hl hV hb
                 (try unfold hasC at *)
                 simp_all
                 try omega)
            ·
             refine L_ps (L_ps (L_ps (L_r (r_pf rfl rfl) (L_r (r_mb rfl) (L_ps (L_ps (L_ps (L_ps ?_))))))))
             refine L_r (r_pf rfl rfl) (L_r (r_ab rfl) (L_nil (W_ret ?_)))
             refine ret1 (v := .bool _) rfl rfl ?_
             first
             | (refine ⟨_, rfl, ⟨fun h => absurd h (by decide), fun h => ?_⟩, Ch.au⟩
                have k := hQ1.1 (hQ.1 h).1
                clear hQ hQ1 hlo hz hx hl hV hb h
                exfalso
                first
                | (rw [k.1] at h15; exact absurd h15 (by decide))
                | exact absurd (h33.symm.trans k.2.2.2) (by decide)
                | (simp [k.1] at h15; done)
                | (simp only [k.2.2.2] at h33; exact absurd h33 (by decide))
                | (simp_all; done)
                | omega)
             | (refine ⟨_, rfl, ⟨fun h => absurd h (by decide), fun h => ?_⟩, Ch.au⟩
                have k := hQ1.1 (hQ.1 h).1
                clear hQ hQ1 hlo hz hx hl hV hb h
                omega)
             | (refine ⟨_, rfl, ?_, Ch.au⟩
                rw [hQ]
                clear hQ hQ1 hlo hz hx hl hV hb
                (try unfold hasC at *)
                simp_all
                try omega)
           ·
            refine L_ps (L_ps (L_ps (L_r (r_pf rfl rfl) (L_r (r_mb rfl) (L_ps (L_ps (L_ps (L_r (r_pf rfl rfl) ?_))))))))
            refine L_r (r_mb rfl) (L_ps (L_ps (L_ps (L_ps (L_r (r_pf rfl rfl) (L_r (r_ab rfl) (L_nil (W_ret ?_))))))))
            refine ret1 (v := .bool _) rfl rfl ?_
            first
            | (refine ⟨_, rfl, ⟨fun h => absurd h (by decide), fun h => ?_⟩, Ch.au⟩
               have k := hQ1.1 (hQ.1 h).1
               clear hQ hQ1 hlo hz hx hl hV hb h
               exfalso
               first
               | (rw [k.1] at h15; exact absurd h15 (by decide))
               | exact absurd (h33.symm.trans k.2.2.2) (by decide)
               | (simp [k.1] at h15; done)
               | (simp only [k.2.2.2] at h33; exact absurd h33 (by decide))
               | (simp_all; done)
               | omega)
            | (refine ⟨_, rfl, ⟨fun h => absurd h (by decide), fun h => ?_⟩, Ch.au⟩
               have k := hQ1.1 (hQ.1 h).1
               clear hQ hQ1 hlo hz hx hl hV hb h
               omega)
            | (refine ⟨_, rfl, ?_, Ch.au⟩
               rw [hQ]
               clear hQ hQ1 hlo hz hx hl hV hb
               (try unfold hasC at *)
               simp_all
               try omega)
          ·
           refine L_ps (L_ps (L_ps (L_r (r_pf rfl rfl) (L_r (r_mb rfl) (L_ps (L_ps (L_ps (L_r (r_pf rfl rfl) ?_))))))))
           refine L_r (r_mb rfl) (L_ps (L_ps (L_ps (L_r (r_pf rfl rfl) (L_r (r_mb rfl) (L_ps (L_ps (L_ps ?_))))))))
           refine L_ps (L_r (r_pf rfl rfl) (L_r (r_ab rfl) (L_nil (W_ret ?_))))
           refine ret1 (v := .bool _) rfl rfl ?_
           first
           | (refine ⟨_, rfl, ⟨fun h => absurd h (by decide), fun h => ?_⟩, Ch.au⟩
              have k := hQ1.1 (hQ.1 h).1
              clear hQ hQ1 hlo hz hx hl hV hb h
              exfalso
              first
              | (rw [k.1] at h15; exact absurd h15 (by decide))
              | exact absurd (h33.symm.trans k.2.2.2) (by decide)
              | (simp [k.1] at h15; done)
              | (simp only [k.2.2.2] at h33; exact absurd h33 (by decide))
              | (simp_all; done)
              | omega)
           | (refine ⟨_, rfl, ⟨fun h => absurd h (by decide), fun h => ?_⟩, Ch.au⟩
              have k := hQ1.1 (hQ.1 h).1
              clear hQ hQ1 hlo hz hx hl hV hb h
              omega)
           | (refine ⟨_, rfl, ?_, Ch.au⟩
              rw [hQ]
              clear hQ hQ1 hlo hz hx hl hV hb
              (try unfold hasC at *)
              simp_all
              try omega)
         ·
          refine L_ps (L_ps (L_ps (L_r (r_pf rfl rfl) (L_r (r_mb rfl) (L_ps (L_ps (L_ps (L_r (r_pf rfl rfl) ?_))))))))
          refine L_r (r_mb rfl) (L_ps (L_ps (L_ps (L_r (r_pf rfl rfl) (L_r (r_mb rfl) (L_ps (L_ps (L_ps ?_))))))))
          refine L_r (r_pf rfl rfl) (L_r (r_mb rfl) (L_ps (L_ps (L_ps (L_ps (L_r (r_pf rfl rfl) (L_r (r_ab rfl) (L_nil ?_))))))))
          refine W_ret ?_
          refine ret1 (v := .bool _) rfl rfl ?_
          first
          | (refine ⟨_, rfl, ⟨fun h => absurd h (by decide), fun h => ?_⟩, Ch.au⟩
             have k := hQ1.1 (hQ.1 h).1
             clear hQ hQ1 hlo hz hx hl hV hb h
             exfalso
             first
             | (rw [k.1] at h15; exact absurd h15 (by decide))
             | exact absurd (h33.symm.trans k.2.2.2) (by decide)
             | (simp [k.1] at h15; done)
             | (simp only [k.2.2.2] at h33; exact absurd h33 (by decide))
             | (simp_all; done)
             | omega)
          | (refine ⟨_, rfl, ⟨fun h => absurd h (by decide), fun h => ?_⟩, Ch.au⟩
             have k := hQ1.1 (hQ.1 h).1
             clear hQ hQ1 hlo hz hx hl hV hb h
             omega)
          | (refine ⟨_, rfl, ?_, Ch.au⟩
             rw [hQ]
             clear hQ hQ1 hlo hz hx hl hV hb
             (try unfold hasC at *)
             simp_all
             try omega)
        ·
         refine L_ps (L_r (r_pf rfl rfl) (L_r (r_mb rfl) (L_ps (L_ps (L_ps (L_r (r_pf rfl rfl) (L_r (r_mb rfl) (L_ps ?_))))))))
         refine L_ps (L_ps (L_r (r_pf rfl rfl) (L_r (r_mb rfl) (L_ps (L_ps (L_ps (L_r (r_pf rfl rfl) (L_r (r_mb rfl) ?_))))))))
         refine L_ps (L_ps (L_ps (L_r (r_pf rfl rfl) (L_r (r_mb rfl) (L_ps (L_ps (L_ps (L_r (r_pf rfl rfl) ?_))))))))
         refine L_r (r_mb rfl) (L_ps (L_ps (L_ps (L_ps (L_r (r_pf rfl rfl) (L_r (r_ab rfl) (L_nil (W_ret ?_))))))))
         refine ret1 (v := .bool _) rfl rfl ?_
         first
         | (refine ⟨_, rfl, ⟨fun h => absurd h (by decide), fun h => ?_⟩, Ch.au⟩
            have k := hQ1.1 (hQ.1 h).1
            clear hQ hQ1 hlo hz hx hl hV hb h
            exfalso
            first
            | (rw [k.1] at h15; exact absurd h15 (by decide))
            | exact absurd (h33.symm.trans k.2.2.2) (by decide)
            | (simp [k.1] at h15; done)
            | (simp only [k.2.2.2] at h33; exact absurd h33 (by decide))
            | (simp_all; done)
            | omega)
         | (refine ⟨_, rfl, ⟨fun h => absurd h (by decide), fun h => ?_⟩, Ch.au⟩
            have k := hQ1.1 (hQ.1 h).1
            clear hQ hQ1 hlo hz hx hl hV hb h
            omega)
         | (refine ⟨_, rfl, ?_, Ch.au⟩
            rw [hQ]
            clear hQ hQ1 hlo hz hx hl hV hb
            (try unfold hasC at *)
            simp_all
            try omega)
       ·
        refine L_g (r_fieldb Tryz.underlying29 rfl (show _ = some 1 from rfl) rfl rfl (show _ = 8 from rfl)) ?_
        refine L_g (r_lb rfl rfl) ?_
        refine L_call (.yes 3 false rfl rfl) rfl rfl (r_call Tryz.func26 rfl rfl rfl (by rfl)) (class_walk _ _) ?_
        rintro v54 w89 ⟨rfl, c89⟩
        have hz89 := c89.size
        refine L_r (r_pf rfl rfl) (L_r (r_ab rfl) (L_nil (W_seq (W_region (L_r (r_mb rfl) (L_r (r_mb rfl) ?_))))))
        refine L_caseb (d := 57) rfl (fun h57 => ?_) (fun h57 => ?_)
        ·
         refine L_g (r_mb rfl) (L_r (r_pt rfl rfl) (L_r (r_mb rfl) ?_))
         refine L_caseb (d := 60) rfl (fun h60 => ?_) (fun h60 => ?_)
         ·
          refine L_g (r_fieldb Tryz.underlying29 rfl (show _ = some 1 from rfl) rfl rfl (show _ = 1 from rfl)) ?_
          refine L_g (r_lb rfl rfl) ?_
          refine L_g (r_geq rfl rfl) (L_r (r_pt rfl rfl) (L_r (r_mb rfl) ?_))
          refine L_case (d := 65) rfl (fun h65 => ?_) (fun h65 => ?_)
          ·
           refine L_g (r_fieldb Tryz.underlying29 rfl (show _ = some 1 from rfl) rfl rfl (show _ = 1 from rfl)) ?_
           refine L_g (r_lb rfl rfl) ?_
           refine L_g (r_leq rfl rfl) (L_r (r_pt rfl rfl) (L_r (r_mb rfl) ?_))
           refine L_case (d := 70) rfl (fun h70 => ?_) (fun h70 => ?_)
           ·
            refine L_g (r_fieldb Tryz.underlying29 rfl (show _ = some 1 from rfl) rfl rfl (show _ = 5 from rfl)) ?_
            refine L_g (r_lb rfl rfl) ?_
            refine L_call (.yes 14 true rfl rfl) rfl rfl (r_call Tryz.func27 rfl rfl rfl (by rfl)) (ssmall_walk _ _) ?_
            rintro v73 w90 ⟨rfl, c90⟩
            have hz90 := c90.size
            refine L_r (r_pt rfl rfl) (L_r (r_mb rfl) ?_)
            refine L_caseb (d := 75) rfl (fun h75 => ?_) (fun h75 => ?_)
            ·
             refine L_g (r_fieldb Tryz.underlying29 rfl (show _ = some 1 from rfl) rfl rfl (show _ = 6 from rfl)) ?_
             refine L_g (r_lb rfl rfl) ?_
             refine L_call (.yes 19 true rfl rfl) rfl rfl (r_call Tryz.func27 rfl rfl rfl (by rfl)) (ssmall_walk _ _) ?_
             rintro v78 w91 ⟨rfl, c91⟩
             have hz91 := c91.size
             refine L_r (r_pt rfl rfl) (L_r (r_mb rfl) ?_)
             refine L_caseb (d := 80) rfl (fun h80 => ?_) (fun h80 => ?_)
             ·
              refine L_g (r_fieldb Tryz.underlying29 rfl (show _ = some 1 from rfl) rfl rfl (show _ = 7 from rfl)) ?_
              refine L_g (r_lb rfl rfl) ?_
              refine L_call (.yes 24 true rfl rfl) rfl rfl (r_call Tryz.func27 rfl rfl rfl (by rfl)) (ssmall_walk _ _) ?_
              rintro v83 w92 ⟨rfl, c92⟩
              have hz92 := c92.size
              refine L_r (r_pt rfl rfl) (L_r (r_mb rfl) ?_)
              refine L_caseb (d := 85) rfl (fun h85 => ?_) (fun h85 => ?_)
              ·
               refine L_g (r_fieldb Tryz.underlying29 rfl (show _ = some 1 from rfl) rfl rfl (show _ = 9 from rfl)) ?_
               refine L_g (r_lb rfl rfl) ?_
               refine L_g (r_lens Tryz.underlying9 rfl) ?_
               refine L_g (r_leq rfl rfl) (L_r (r_pt rfl rfl) (L_r (r_ab rfl) (L_nil (W_ret ?_))))
               refine ret1 (v := .bool _) rfl rfl ?_
               first
               | (refine ⟨_, rfl, ⟨fun h => absurd h (by decide), fun h => ?_⟩, Ch.au⟩
                  have k := hQ1.1 (hQ.1 h).1
                  clear hQ hQ1 hlo hz hx hl hV hb h
                  exfalso
                  first
                  | (rw [k.1] at h15; exact absurd h15 (by decide))
                  | exact absurd (h33.symm.trans k.2.2.2) (by decide)
                  | (simp [k.1] at h15; done)
                  | (simp only [k.2.2.2] at h33; exact absurd h33 (by decide))
                  | (simp_all; done)
                  | omega)
               | (refine ⟨_, rfl, ⟨fun h => absurd h (by decide), fun h => ?_⟩, Ch.au⟩
                  have k := hQ1.1 (hQ.1 h).1
                  clear hQ hQ1 hlo hz hx hl hV hb h
                  omega)
               | (refine ⟨_, rfl, ?_, Ch.au⟩
                  rw [hQ]
                  clear hQ hQ1 hlo hz hx hl hV hb
                  (try unfold hasC at *)
                  simp_all
                  try omega)
              ·
               refine L_ps (L_ps (L_ps (L_ps (L_r (r_pf rfl rfl) (L_r (r_ab rfl) (L_nil (W_ret ?_)))))))
               refine ret1 (v := .bool _) rfl rfl ?_
               first
               | (refine ⟨_, rfl, ⟨fun h => absurd h (by decide), fun h => ?_⟩, Ch.au⟩
                  have k := hQ1.1 (hQ.1 h).1
                  clear hQ hQ1 hlo hz hx hl hV hb h
                  exfalso
                  first
                  | (rw [k.1] at h15; exact absurd h15 (by decide))
                  | exact absurd (h33.symm.trans k.2.2.2) (by decide)
                  | (simp [k.1] at h15; done)
                  | (simp only [k.2.2.2] at h33; exact absurd h33 (by decide))
                  | (simp_all; done)
                  | omega)
               | (refine ⟨_, rfl, ⟨fun h => absurd h (by decide), fun h => ?_⟩, Ch.au⟩
                  have k := hQ1.1 (hQ.1 h).1
                  clear hQ hQ1 hlo hz hx hl hV hb h
                  omega)
               | (refine ⟨_, rfl, ?_, Ch.au⟩
                  rw [hQ]
                  clear hQ hQ1 hlo hz hx hl hV hb
                  (try unfold hasC at *)
                  simp_all
                  try omega)
             ·
              refine L_ps (L_ps (L_ps (L_r (r_pf rfl rfl) (L_r (r_mb rfl) (L_ps (L_ps (L_ps (L_ps ?_))))))))
              refine L_r (r_pf rfl rfl) (L_r (r_ab rfl) (L_nil (W_ret ?_)))
              refine ret1 (v := .bool _) rfl rfl ?_
              first
              | (refine ⟨_, rfl, ⟨fun h => absurd h (by decide), fun h => ?_⟩, Ch.au⟩
                 have k := hQ1.1 (hQ.1 h).1
                 clear hQ hQ1 hlo hz hx hl hV hb h
                 exfalso
                 first
                 | (rw [k.1] at h15; exact absurd h15 (by decide))
                 | exact absurd (h33.symm.trans k.2.2.2) (by decide)
                 | (simp [k.1] at h15; done)
                 | (simp only [k.2.2.2] at h33; exact absurd h33 (by decide))
                 | (simp_all; done)
                 | omega)
              | (refine ⟨_, rfl, ⟨fun h => absurd h (by decide), fun h => ?_⟩, Ch.au⟩
                 have k := hQ1.1 (hQ.1 h).1
                 clear hQ hQ1 hlo hz hx hl hV hb h
                 omega)
              | (refine ⟨_, rfl, ?_, Ch.au⟩
                 rw [hQ]
                 clear hQ hQ1 hlo hz hx hl hV hb
                 (try unfold hasC at *)
                 simp_all
                 try omega)
            ·
             refine L_ps (L_ps (L_ps (L_r (r_pf rfl rfl) (L_r (r_mb rfl) (L_ps (L_ps (L_ps (L_r (r_pf rfl rfl) ?_))))))))
             refine L_r (r_mb rfl) (L_ps (L_ps (L_ps (L_ps (L_r (r_pf rfl rfl) (L_r (r_ab rfl) (L_nil (W_ret ?_))))))))
             refine ret1 (v := .bool _) rfl rfl ?_
             first
             | (refine ⟨_, rfl, ⟨fun h => absurd h (by decide), fun h => ?_⟩, Ch.au⟩
                have k := hQ1.1 (hQ.1 h).1
                clear hQ hQ1 hlo hz hx hl hV hb h
                exfalso
                first
                | (rw [k.1] at h15; exact absurd h15 (by decide))
                | exact absurd (h33.symm.trans k.2.2.2) (by decide)
                | (simp [k.1] at h15; done)
                | (simp only [k.2.2.2] at h33; exact absurd h33 (by decide))
                | (simp_all; done)
                | omega)
             | (refine ⟨_, rfl, ⟨fun h => absurd h (by decide), fun h => ?_⟩, Ch.au⟩
                have k := hQ1.1 (hQ.1 h).1
                clear hQ hQ1 hlo hz hx hl hV hb h
                omega)
             | (refine ⟨_, rfl, ?_, Ch.au⟩
                rw [hQ]
                clear hQ hQ1 hlo hz hx hl hV hb
                (try unfold hasC at *)
                simp_all
                try omega)
           ·
            refine L_ps (L_ps (L_ps (L_r (r_pf rfl rfl) (L_r (r_mb rfl) (L_ps (L_ps (L_ps (L_r (r_pf rfl rfl) ?_))))))))
            refine L_r (r_mb rfl) (L_ps (L_ps (L_ps (L_r (r_pf rfl rfl) (L_r (r_mb rfl) (L_ps (L_ps (L_ps ?_))))))))
            refine L_ps (L_r (r_pf rfl rfl) (L_r (r_ab rfl) (L_nil (W_ret ?_))))
            refine ret1 (v := .bool _) rfl rfl ?_
            first
            | (refine ⟨_, rfl, ⟨fun h => absurd h (by decide), fun h => ?_⟩, Ch.au⟩
               have k := hQ1.1 (hQ.1 h).1
               clear hQ hQ1 hlo hz hx hl hV hb h
               exfalso
               first
               | (rw [k.1] at h15; exact absurd h15 (by decide))
               | exact absurd (h33.symm.trans k.2.2.2) (by decide)
               | (simp [k.1] at h15; done)
               | (simp only [k.2.2.2] at h33; exact absurd h33 (by decide))
               | (simp_all; done)
               | omega)
            | (refine ⟨_, rfl, ⟨fun h => absurd h (by decide), fun h => ?_⟩, Ch.au⟩
               have k := hQ1.1 (hQ.1 h).1
               clear hQ hQ1 hlo hz hx hl hV hb h
               omega)
            | (refine ⟨_, rfl, ?_, Ch.au⟩
               rw [hQ]
               clear hQ hQ1 hlo hz hx hl hV hb
               (try unfold hasC at *)
               simp_all
               try omega)
          ·
           refine L_ps (L_ps (L_ps (L_r (r_pf rfl rfl) (L_r (r_mb rfl) (L_ps (L_ps (L_ps (L_r (r_pf rfl rfl) ?_))))))))
           refine L_r (r_mb rfl) (L_ps (L_ps (L_ps (L_r (r_pf rfl rfl) (L_r (r_mb rfl) (L_ps (L_ps (L_ps ?_))))))))
           refine L_r (r_pf rfl rfl) (L_r (r_mb rfl) (L_ps (L_ps (L_ps (L_ps (L_r (r_pf rfl rfl) (L_r (r_ab rfl) (L_nil ?_))))))))
           refine W_ret ?_
           refine ret1 (v := .bool _) rfl rfl ?_
           first
           | (refine ⟨_, rfl, ⟨fun h => absurd h (by decide), fun h => ?_⟩, Ch.au⟩
              have k := hQ1.1 (hQ.1 h).1
              clear hQ hQ1 hlo hz hx hl hV hb h
              exfalso
              first
              | (rw [k.1] at h15; exact absurd h15 (by decide))
              | exact absurd (h33.symm.trans k.2.2.2) (by decide)
              | (simp [k.1] at h15; done)
              | (simp only [k.2.2.2] at h33; exact absurd h33 (by decide))
              | (simp_all; done)
              | omega)
           | (refine ⟨_, rfl, ⟨fun h => absurd h (by decide), fun h => ?_⟩, Ch.au⟩
              have k := hQ1.1 (hQ.1 h).1
              clear hQ hQ1 hlo hz hx hl hV hb h
              omega)
           | (refine ⟨_, rfl, ?_, Ch.au⟩
              rw [hQ]
              clear hQ hQ1 hlo hz hx hl hV hb
              (try unfold hasC at *)
              simp_all
              try omega)
         ·
          refine L_ps (L_ps (L_ps (L_r (r_pf rfl rfl) (L_r (r_mb rfl) (L_ps (L_ps (L_ps (L_r (r_pf rfl rfl) ?_))))))))
          refine L_r (r_mb rfl) (L_ps (L_ps (L_ps (L_r (r_pf rfl rfl) (L_r (r_mb rfl) (L_ps (L_ps (L_ps ?_))))))))
          refine L_r (r_pf rfl rfl) (L_r (r_mb rfl) (L_ps (L_ps (L_ps (L_r (r_pf rfl rfl) (L_r (r_mb rfl) (L_ps (L_ps ?_))))))))
          refine L_ps (L_ps (L_r (r_pf rfl rfl) (L_r (r_ab rfl) (L_nil (W_ret ?_)))))
          refine ret1 (v := .bool _) rfl rfl ?_
          first
          | (refine ⟨_, rfl, ⟨fun h => absurd h (by decide), fun h => ?_⟩, Ch.au⟩
             have k := hQ1.1 (hQ.1 h).1
             clear hQ hQ1 hlo hz hx hl hV hb h
             exfalso
             first
             | (rw [k.1] at h15; exact absurd h15 (by decide))
             | exact absurd (h33.symm.trans k.2.2.2) (by decide)
             | (simp [k.1] at h15; done)
             | (simp only [k.2.2.2] at h33; exact absurd h33 (by decide))
             | (simp_all; done)
             | omega)
          | (refine ⟨_, rfl, ⟨fun h => absurd h (by decide), fun h => ?_⟩, Ch.au⟩
             have k := hQ1.1 (hQ.1 h).1
             clear hQ hQ1 hlo hz hx hl hV hb h
             omega)
          | (refine ⟨_, rfl, ?_, Ch.au⟩
             rw [hQ]
             clear hQ hQ1 hlo hz hx hl hV hb
             (try unfold hasC at *)
             simp_all
             try omega)
        ·
         refine L_ps (L_r (r_pf rfl rfl) (L_r (r_mb rfl) (L_ps (L_ps (L_ps (L_r (r_pf rfl rfl) (L_r (r_mb rfl) (L_ps ?_))))))))
         refine L_ps (L_ps (L_r (r_pf rfl rfl) (L_r (r_mb rfl) (L_ps (L_ps (L_ps (L_r (r_pf rfl rfl) (L_r (r_mb rfl) ?_))))))))
         refine L_ps (L_ps (L_ps (L_r (r_pf rfl rfl) (L_r (r_mb rfl) (L_ps (L_ps (L_ps (L_r (r_pf rfl rfl) ?_))))))))
         refine L_r (r_mb rfl) (L_ps (L_ps (L_ps (L_ps (L_r (r_pf rfl rfl) (L_r (r_ab rfl) (L_nil (W_ret ?_))))))))
         refine ret1 (v := .bool _) rfl rfl ?_
         first
         | (refine ⟨_, rfl, ⟨fun h => absurd h (by decide), fun h => ?_⟩, Ch.au⟩
            have k := hQ1.1 (hQ.1 h).1
            clear hQ hQ1 hlo hz hx hl hV hb h
            exfalso
            first
            | (rw [k.1] at h15; exact absurd h15 (by decide))
            | exact absurd (h33.symm.trans k.2.2.2) (by decide)
            | (simp [k.1] at h15; done)
            | (simp only [k.2.2.2] at h33; exact absurd h33 (by decide))
            | (simp_all; done)
            | omega)
         | (refine ⟨_, rfl, ⟨fun h => absurd h (by decide), fun h => ?_⟩, Ch.au⟩
            have k := hQ1.1 (hQ.1 h).1
            clear hQ hQ1 hlo hz hx hl hV hb h
            omega)
         | (refine ⟨_, rfl, ?_, Ch.au⟩
            rw [hQ]
            clear hQ hQ1 hlo hz hx hl hV hb
            (try unfold hasC at *)
            simp_all
            try omega)
      ·
       refine L_ps (L_ps (L_ps (L_ps ?_)))
       refine L_g (r_pf rfl rfl) (L_r (r_pf rfl rfl) (L_r (r_ab rfl) (L_nil (W_seq (W_region (L_r (r_ms rfl) ?_))))))
       refine L_call (.plain rfl) rfl rfl (r_call Tryz.func24 rfl rfl rfl (by rfl)) (scont_use _ _ _) ?_
       rintro v49 w93 ⟨rfl, rfl⟩
       refine L_r (r_not rfl) (L_r (r_mb rfl) ?_)
       refine L_caseb (d := 51) rfl (fun h51 => ?_) (fun h51 => ?_)
       ·
        refine L_ps (L_ps (L_ps (L_r (r_pt rfl rfl) (L_r (r_ab rfl) (L_nil (W_seq (W_region (L_r (r_mb rfl) ?_))))))))
        refine L_r (r_mb rfl) (L_ps (L_r (r_pf rfl rfl) (L_r (r_mb rfl) (L_ps (L_ps (L_ps (L_r (r_pf rfl rfl) (L_r (r_mb rfl) ?_))))))))
        refine L_ps (L_ps (L_ps (L_r (r_pf rfl rfl) (L_r (r_mb rfl) (L_ps (L_ps (L_ps (L_r (r_pf rfl rfl) ?_))))))))
        refine L_r (r_mb rfl) (L_ps (L_ps (L_ps (L_r (r_pf rfl rfl) (L_r (r_mb rfl) (L_ps (L_ps (L_ps ?_))))))))
        refine L_r (r_pf rfl rfl) (L_r (r_mb rfl) (L_ps (L_ps (L_ps (L_ps (L_r (r_pf rfl rfl) (L_r (r_ab rfl) (L_nil ?_))))))))
        refine W_ret ?_
        refine ret1 (v := .bool _) rfl rfl ?_
        first
        | (refine ⟨_, rfl, ⟨fun h => absurd h (by decide), fun h => ?_⟩, Ch.au⟩
           have k := hQ1.1 (hQ.1 h).1
           clear hQ hQ1 hlo hz hx hl hV hb h
           exfalso
           first
           | (rw [k.1] at h15; exact absurd h15 (by decide))
           | exact absurd (h33.symm.trans k.2.2.2) (by decide)
           | (simp [k.1] at h15; done)
           | (simp only [k.2.2.2] at h33; exact absurd h33 (by decide))
           | (simp_all; done)
           | omega)
        | (refine ⟨_, rfl, ⟨fun h => absurd h (by decide), fun h => ?_⟩, Ch.au⟩
           have k := hQ1.1 (hQ.1 h).1
           clear hQ hQ1 hlo hz hx hl hV hb h
           omega)
        | (refine ⟨_, rfl, ?_, Ch.au⟩
           rw [hQ]
           clear hQ hQ1 hlo hz hx hl hV hb
           (try unfold hasC at *)
           simp_all
           try omega)
       ·
        refine L_g (r_fieldb Tryz.underlying29 rfl (show _ = some 1 from rfl) rfl rfl (show _ = 8 from rfl)) ?_
        refine L_g (r_lb rfl rfl) ?_
        refine L_call (.yes 3 false rfl rfl) rfl rfl (r_call Tryz.func26 rfl rfl rfl (by rfl)) (class_walk _ _) ?_
        rintro v54 w94 ⟨rfl, c94⟩
        have hz94 := c94.size
        refine L_r (r_pf rfl rfl) (L_r (r_ab rfl) (L_nil (W_seq (W_region (L_r (r_mb rfl) (L_r (r_mb rfl) (L_ps (L_r (r_pf rfl rfl) ?_))))))))
        refine L_r (r_mb rfl) (L_ps (L_ps (L_ps (L_r (r_pf rfl rfl) (L_r (r_mb rfl) (L_ps (L_ps (L_ps ?_))))))))
        refine L_r (r_pf rfl rfl) (L_r (r_mb rfl) (L_ps (L_ps (L_ps (L_r (r_pf rfl rfl) (L_r (r_mb rfl) (L_ps (L_ps ?_))))))))
        refine L_ps (L_r (r_pf rfl rfl) (L_r (r_mb rfl) (L_ps (L_ps (L_ps (L_r (r_pf rfl rfl) (L_r (r_mb rfl) (L_ps ?_))))))))
        refine L_ps (L_ps (L_ps (L_r (r_pf rfl rfl) (L_r (r_ab rfl) (L_nil (W_ret ?_))))))
        refine ret1 (v := .bool _) rfl rfl ?_
        first
        | (refine ⟨_, rfl, ⟨fun h => absurd h (by decide), fun h => ?_⟩, Ch.au⟩
           have k := hQ1.1 (hQ.1 h).1
           clear hQ hQ1 hlo hz hx hl hV hb h
           exfalso
           first
           | (rw [k.1] at h15; exact absurd h15 (by decide))
           | exact absurd (h33.symm.trans k.2.2.2) (by decide)
           | (simp [k.1] at h15; done)
           | (simp only [k.2.2.2] at h33; exact absurd h33 (by decide))
           | (simp_all; done)
           | omega)
        | (refine ⟨_, rfl, ⟨fun h => absurd h (by decide), fun h => ?_⟩, Ch.au⟩
           have k := hQ1.1 (hQ.1 h).1
           clear hQ hQ1 hlo hz hx hl hV hb h
           omega)
        | (refine ⟨_, rfl, ?_, Ch.au⟩
           rw [hQ]
           clear hQ hQ1 hlo hz hx hl hV hb
           (try unfold hasC at *)
           simp_all
           try omega)
end Go.Proofs.YtgmeojpekdekeaaGreatDoor
