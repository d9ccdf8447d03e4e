/- The document's caller, walked: a reply; the same lists. -/
import Derived.Test.YtjjddbicggfgnaaRef15d
namespace Go.Proofs.Ytjjddbicggfgnaa
open Go Go.RowKit
set_option linter.unusedVariables false
set_option linter.unusedSimpArgs false
set_option maxRecDepth 100000
variable {base : Nat} {w w' : World} {vl vo vr : Value} {R : RCal}
def RecvR (R : RCal) (m : Msg) (R' : RCal) (ok : Bool) : Prop :=
  (ok = false ∧ R' = R ∧ (m.kind ≠ 1 ∨ m.life ≠ R.life ∨ checkC m ≠ 0 ∨ (R.L.length : Int) < m.seq ∨ ∃ (k : Nat) (x : RCl), m.seq = (k : Int) + 1 ∧ R.L[k]? = some x ∧ x.ended = true)) ∨
  (ok = true ∧ m.kind = 1 ∧ m.life = R.life ∧ checkC m = 0 ∧ ∃ (k : Nat) (x : RCl), m.seq = (k : Int) + 1 ∧ R.L[k]? = some x ∧ x.ended = false ∧ R' = endR R k x m.way m.body)
theorem check_seq {m : Msg} (h : checkC m = 0) : m.seq ≠ 0 := by
  unfold checkC at h
  split at h
  · exact absurd h (by decide)
  · split at h
    · rename_i hr; exact hr.2.1
    · exact absurd h (by decide)
theorem recv_x {R : RCal} {m : Msg} (ho : m.ok) (h : checkC m = 0) (hl : m.seq ≤ (R.L.length : Int)) : ∃ (k : Nat) (x : RCl), m.seq = (k : Int) + 1 ∧ R.L[k]? = some x := by
  have h1 := check_seq h
  have h2 := ho.seq
  exact ⟨m.seq.toNat - 1, _, by omega, List.getElem?_eq_getElem (by omega)⟩
set_option maxHeartbeats 4000000 in
theorem rrecv_walk (base : Nat) (vl vo vr : Value) (R : RCal) (m : Msg) (w0 : World) (hR : RcAt base w0 vl vo vr R) (hok : m.ok) (hms : m.method.size ≤ 1000000000) (hl : R.L.length ≤ 90000) (hrl : R.res.length ≤ 900000) (hbs : base ≤ w0.heap.size) : Does Try.prog 18 #[.agg #[.int .u64 R.life, .int .i64 R.wait, .int .i64 R.most, vl, vo, vr], m.v] w0 (fun r w' => ∃ vl' vr' R' ok, r = .tuple #[.agg (R'.row vl' vo vr'), .bool ok] ∧ RecvR R m R' ok ∧ RcAt base w' vl' vo vr' R' ∧ (∀ j, Rown vl' vo vr' j → Rown vl vo vr j ∨ w0.heap.size ≤ j) ∧ Nw w0 w') := by
  have h1 := sl_one hR.l.sl
  have h2 := sl_one hR.o.sl
  have h3 := sl_one hR.r.sl
  have hv := hR.l.sl
  refine fn_of (n := 51) (args := [.agg #[.int .u64 R.life, .int .i64 R.wait, .int .i64 R.most, vl, vo, vr], m.v]) Try.func18 rfl rfl rfl ?_
  refine W_seq ?_
  refine W_region ?_
  refine L_new (.plain rfl) rfl rfl (r_boxa rfl) (fun w1 b2 hb2 eb1 hs1 c1 => ?_)
  refine L_new (.plain rfl) rfl rfl (r_boxa rfl) (fun w2 b3 hb3 eb2 hs2 c2 => ?_)
  refine L_new (.plain rfl) rfl rfl (r_alloca rfl) (fun w3 b4 hb4 eb3 hs3 c3 => ?_)
  refine L_r (r_ab rfl) ?_
  refine L_nil ?_
  refine W_seq ?_
  refine W_seq ?_
  refine W_region ?_
  refine L_r (r_fieldb Try.underlying33 rfl (show _ = some 1 from rfl) rfl rfl (show _ = 0 from rfl)) ?_
  refine L_r (r_lb rfl rfl) ?_
  refine L_r (r_neq rfl rfl) ?_
  refine L_r (r_mb rfl) ?_
  refine L_case (d := 9) rfl (fun h9 => ?_) (fun h9 => ?_)
  · refine L_ps ?_
    refine L_ps ?_
    refine L_ps ?_
    refine L_ps ?_
    refine L_ps ?_
    refine L_r (r_pt rfl rfl) ?_
    refine L_r (r_mb rfl) ?_
    refine L_ps ?_
    refine L_ps ?_
    refine L_ps ?_
    refine L_r (r_pt rfl rfl) ?_
    refine L_r (r_mb rfl) ?_
    refine L_ps ?_
    refine L_ps ?_
    refine L_ps ?_
    refine L_ps ?_
    refine L_ps ?_
    refine L_ps ?_
    refine L_ps ?_
    refine L_r (r_pt rfl rfl) ?_
    refine L_r (r_mb rfl) ?_
    refine L_ps ?_
    refine L_ps ?_
    refine L_ps ?_
    refine L_ps ?_
    refine L_ps ?_
    refine L_ps ?_
    refine L_ps ?_
    refine L_ps ?_
    refine L_r (r_pt rfl rfl) ?_
    refine L_nil ?_
    refine W_true rfl ?_
    refine W_seq ?_
    refine W_region ?_
    refine L_r (r_loadrow Try.underlying41 rfl rfl Bk.au (by first | rfl | assumption)) ?_
    have hnb := hR.lt
    refine L_storerow (.plain rfl) rfl rfl Bk.au (by first | rfl | (simp; done) | assumption) (by first | rfl | assumption) (by first | exact six_one h1 h2 h3 | exact six_one k1 h2 k3 | rfl | (simp [Value.oneCell']; done)) (fun w4 hb4 hs4 c4 => ?_)
    refine L_r (r_ab rfl) ?_
    refine L_nil ?_
    refine W_ret ?_
    refine r_ret_ct rfl rfl Try.underlying41 rfl Bk.au (by first | rfl | assumption) (show _ = (.bool _ : Value) from rfl) ?_
    first
    | (refine ⟨vl, vr, R, false, rfl, .inl ⟨rfl, rfl, ?_⟩, hR.nw Ch.au, fun j hj => .inl hj, Ch.au⟩
       first | exact .inl (by omega) | exact .inr (.inl (by omega)) | exact .inr (.inr (.inl (by omega))) | exact .inr (.inr (.inr (.inl (by omega)))) | exact .inr (.inr (.inr (.inr ⟨k, x, hk, hx, by assumption⟩))))
    | (refine ⟨vl', vr', endR R k x m.way m.body, true, rfl, .inr ⟨rfl, by omega, by omega, by omega, k, x, hk, hx, by simpa using (by assumption : x.ended = false), rfl⟩, hA.ch (X := fun j => j = b4) Ch.au (fun j hj e => ?_), fun j hj => ?_, Ch.au⟩
       · have e' : j = b4 := e
         rcases hw j hj with hj | hj
         · have := hR.lt j hj; omega
         · omega
       · rcases hw j hj with hj | hj
         · exact .inl hj
         · right; omega)
  · refine L_g (r_fieldb Try.underlying33 rfl (show _ = some 1 from rfl) rfl rfl (show _ = 1 from rfl)) ?_
    refine L_g (r_lb rfl rfl) ?_
    refine L_g (r_fieldb Try.underlying41 rfl (show _ = some 1 from rfl) rfl rfl (show _ = 0 from rfl)) ?_
    refine L_g (r_lb rfl rfl) ?_
    refine L_g (r_neq rfl rfl) ?_
    refine L_r (r_pf rfl rfl) ?_
    refine L_r (r_mb rfl) ?_
    refine L_case (d := 16) rfl (fun h16 => ?_) (fun h16 => ?_)
    · refine L_ps ?_
      refine L_ps ?_
      refine L_ps ?_
      refine L_r (r_pt rfl rfl) ?_
      refine L_r (r_mb rfl) ?_
      refine L_ps ?_
      refine L_ps ?_
      refine L_ps ?_
      refine L_ps ?_
      refine L_ps ?_
      refine L_ps ?_
      refine L_ps ?_
      refine L_r (r_pt rfl rfl) ?_
      refine L_r (r_mb rfl) ?_
      refine L_ps ?_
      refine L_ps ?_
      refine L_ps ?_
      refine L_ps ?_
      refine L_ps ?_
      refine L_ps ?_
      refine L_ps ?_
      refine L_ps ?_
      refine L_r (r_pt rfl rfl) ?_
      refine L_nil ?_
      refine W_true rfl ?_
      refine W_seq ?_
      refine W_region ?_
      refine L_r (r_loadrow Try.underlying41 rfl rfl Bk.au (by first | rfl | assumption)) ?_
      have hnb := hR.lt
      refine L_storerow (.plain rfl) rfl rfl Bk.au (by first | rfl | (simp; done) | assumption) (by first | rfl | assumption) (by first | exact six_one h1 h2 h3 | exact six_one k1 h2 k3 | rfl | (simp [Value.oneCell']; done)) (fun w5 hb5 hs5 c5 => ?_)
      refine L_r (r_ab rfl) ?_
      refine L_nil ?_
      refine W_ret ?_
      refine r_ret_ct rfl rfl Try.underlying41 rfl Bk.au (by first | rfl | assumption) (show _ = (.bool _ : Value) from rfl) ?_
      first
      | (refine ⟨vl, vr, R, false, rfl, .inl ⟨rfl, rfl, ?_⟩, hR.nw Ch.au, fun j hj => .inl hj, Ch.au⟩
         first | exact .inl (by omega) | exact .inr (.inl (by omega)) | exact .inr (.inr (.inl (by omega))) | exact .inr (.inr (.inr (.inl (by omega)))) | exact .inr (.inr (.inr (.inr ⟨k, x, hk, hx, by assumption⟩))))
      | (refine ⟨vl', vr', endR R k x m.way m.body, true, rfl, .inr ⟨rfl, by omega, by omega, by omega, k, x, hk, hx, by simpa using (by assumption : x.ended = false), rfl⟩, hA.ch (X := fun j => j = b4) Ch.au (fun j hj e => ?_), fun j hj => ?_, Ch.au⟩
         · have e' : j = b4 := e
           rcases hw j hj with hj | hj
           · have := hR.lt j hj; omega
           · omega
         · rcases hw j hj with hj | hj
           · exact .inl hj
           · right; omega)
    · refine L_g (r_loadrow Try.underlying33 rfl rfl Bk.au (by first | rfl | assumption)) ?_
      refine L_call (.yes 10 false rfl rfl) rfl rfl (r_call Try.func32 rfl rfl rfl (by rfl)) (rcheck_walk m _ hok hms) ?_
      rintro v18 w6 ⟨rfl, c6⟩
      have hz6 := c6.size
      refine L_g (r_neq rfl rfl) ?_
      refine L_r (r_pf rfl rfl) ?_
      refine L_r (r_mb rfl) ?_
      refine L_case (d := 21) rfl (fun h21 => ?_) (fun h21 => ?_)
      · refine L_ps ?_
        refine L_ps ?_
        refine L_ps ?_
        refine L_ps ?_
        refine L_ps ?_
        refine L_ps ?_
        refine L_ps ?_
        refine L_r (r_pt rfl rfl) ?_
        refine L_r (r_mb rfl) ?_
        refine L_ps ?_
        refine L_ps ?_
        refine L_ps ?_
        refine L_ps ?_
        refine L_ps ?_
        refine L_ps ?_
        refine L_ps ?_
        refine L_ps ?_
        refine L_r (r_pt rfl rfl) ?_
        refine L_nil ?_
        refine W_true rfl ?_
        refine W_seq ?_
        refine W_region ?_
        refine L_r (r_loadrow Try.underlying41 rfl rfl Bk.au (by first | rfl | assumption)) ?_
        have hnb := hR.lt
        refine L_storerow (.plain rfl) rfl rfl Bk.au (by first | rfl | (simp; done) | assumption) (by first | rfl | assumption) (by first | exact six_one h1 h2 h3 | exact six_one k1 h2 k3 | rfl | (simp [Value.oneCell']; done)) (fun w7 hb7 hs7 c7 => ?_)
        refine L_r (r_ab rfl) ?_
        refine L_nil ?_
        refine W_ret ?_
        refine r_ret_ct rfl rfl Try.underlying41 rfl Bk.au (by first | rfl | assumption) (show _ = (.bool _ : Value) from rfl) ?_
        first
        | (refine ⟨vl, vr, R, false, rfl, .inl ⟨rfl, rfl, ?_⟩, hR.nw Ch.au, fun j hj => .inl hj, Ch.au⟩
           first | exact .inl (by omega) | exact .inr (.inl (by omega)) | exact .inr (.inr (.inl (by omega))) | exact .inr (.inr (.inr (.inl (by omega)))) | exact .inr (.inr (.inr (.inr ⟨k, x, hk, hx, by assumption⟩))))
        | (refine ⟨vl', vr', endR R k x m.way m.body, true, rfl, .inr ⟨rfl, by omega, by omega, by omega, k, x, hk, hx, by simpa using (by assumption : x.ended = false), rfl⟩, hA.ch (X := fun j => j = b4) Ch.au (fun j hj e => ?_), fun j hj => ?_, Ch.au⟩
           · have e' : j = b4 := e
             rcases hw j hj with hj | hj
             · have := hR.lt j hj; omega
             · omega
           · rcases hw j hj with hj | hj
             · exact .inl hj
             · right; omega)
      · refine L_g (r_fieldb Try.underlying33 rfl (show _ = some 1 from rfl) rfl rfl (show _ = 2 from rfl)) ?_
        refine L_g (r_lb rfl rfl) ?_
        refine L_g (r_fieldb Try.underlying41 rfl (show _ = some 1 from rfl) rfl rfl (show _ = 3 from rfl)) ?_
        refine L_g (r_lb rfl rfl) ?_
        refine L_g (r_lenSl Try.underlying39 (by conv => lhs; whnf) Sl.au) ?_
        refine L_g (r_conv Try.underlying3 Try.underlying26 rfl (by first | exact wr_u64 (by omega) | rfl)) ?_
        refine L_g (r_gtr rfl rfl) ?_
        refine L_r (r_pf rfl rfl) ?_
        refine L_r (r_mb rfl) ?_
        refine L_case (d := 30) rfl (fun h30 => ?_) (fun h30 => ?_)
        · refine L_ps ?_
          refine L_ps ?_
          refine L_ps ?_
          refine L_ps ?_
          refine L_ps ?_
          refine L_ps ?_
          refine L_ps ?_
          refine L_ps ?_
          refine L_r (r_pt rfl rfl) ?_
          refine L_nil ?_
          refine W_true rfl ?_
          refine W_seq ?_
          refine W_region ?_
          refine L_r (r_loadrow Try.underlying41 rfl rfl Bk.au (by first | rfl | assumption)) ?_
          have hnb := hR.lt
          refine L_storerow (.plain rfl) rfl rfl Bk.au (by first | rfl | (simp; done) | assumption) (by first | rfl | assumption) (by first | exact six_one h1 h2 h3 | exact six_one k1 h2 k3 | rfl | (simp [Value.oneCell']; done)) (fun w8 hb8 hs8 c8 => ?_)
          refine L_r (r_ab rfl) ?_
          refine L_nil ?_
          refine W_ret ?_
          refine r_ret_ct rfl rfl Try.underlying41 rfl Bk.au (by first | rfl | assumption) (show _ = (.bool _ : Value) from rfl) ?_
          first
          | (refine ⟨vl, vr, R, false, rfl, .inl ⟨rfl, rfl, ?_⟩, hR.nw Ch.au, fun j hj => .inl hj, Ch.au⟩
             first | exact .inl (by omega) | exact .inr (.inl (by omega)) | exact .inr (.inr (.inl (by omega))) | exact .inr (.inr (.inr (.inl (by omega)))) | exact .inr (.inr (.inr (.inr ⟨k, x, hk, hx, by assumption⟩))))
          | (refine ⟨vl', vr', endR R k x m.way m.body, true, rfl, .inr ⟨rfl, by omega, by omega, by omega, k, x, hk, hx, by simpa using (by assumption : x.ended = false), rfl⟩, hA.ch (X := fun j => j = b4) Ch.au (fun j hj e => ?_), fun j hj => ?_, Ch.au⟩
             · have e' : j = b4 := e
               rcases hw j hj with hj | hj
               · have := hR.lt j hj; omega
               · omega
             · rcases hw j hj with hj | hj
               · exact .inl hj
               · right; omega)
        · obtain ⟨k, x, hk, hx⟩ := recv_x (R := R) hok (by omega) (by omega)
          obtain ⟨hi, hxi⟩ := getx hx
          have hrow : ∀ (j : Nat) (u : Value), (rcl x)[j]? = some u → (cellsC R.L)[k * 11 + j]? = some u := by rw [← hxi]; exact cellsC_row R.L k hi
          refine L_g (r_fieldb Try.underlying41 rfl (show _ = some 1 from rfl) rfl rfl (show _ = 3 from rfl)) ?_
          refine L_g (r_lb rfl rfl) ?_
          refine L_g (r_fieldb Try.underlying33 rfl (show _ = some 1 from rfl) rfl rfl (show _ = 2 from rfl)) ?_
          refine L_g (r_lb rfl rfl) ?_
          refine L_g (r_sub rfl rfl (by first | exact wr_u64 (by omega) | rfl)) ?_
          rw [show m.seq - 1 = (k : Int) by omega]
          refine L_g (r_ix Try.underlying39 (show _ = some 11 from rfl) (by conv => lhs; whnf) rfl Sl.au) ?_
          refine L_g (r_fieldSl Try.underlying75 rfl (show _ = some 1 from rfl) rfl (show _ = 10 from rfl) rfl rfl) ?_
          refine L_g (r_loadSl rfl rfl Sl.au (by first | assumption | exact hrow 10 _ rfl | (conv => lhs; simp only [List.getElem?_toArray, List.getElem?_cons_succ, List.getElem?_cons_zero]))) ?_
          refine L_r (r_pf rfl rfl) ?_
          refine L_nil ?_
          refine W_bool rfl (fun h39 => ?_) (fun h39 => ?_)
          · refine W_seq ?_
            refine W_region ?_
            refine L_r (r_loadrow Try.underlying41 rfl rfl Bk.au (by first | rfl | assumption)) ?_
            have hnb := hR.lt
            refine L_storerow (.plain rfl) rfl rfl Bk.au (by first | rfl | (simp; done) | assumption) (by first | rfl | assumption) (by first | exact six_one h1 h2 h3 | exact six_one k1 h2 k3 | rfl | (simp [Value.oneCell']; done)) (fun w9 hb9 hs9 c9 => ?_)
            refine L_r (r_ab rfl) ?_
            refine L_nil ?_
            refine W_ret ?_
            refine r_ret_ct rfl rfl Try.underlying41 rfl Bk.au (by first | rfl | assumption) (show _ = (.bool _ : Value) from rfl) ?_
            first
            | (refine ⟨vl, vr, R, false, rfl, .inl ⟨rfl, rfl, ?_⟩, hR.nw Ch.au, fun j hj => .inl hj, Ch.au⟩
               first | exact .inl (by omega) | exact .inr (.inl (by omega)) | exact .inr (.inr (.inl (by omega))) | exact .inr (.inr (.inr (.inl (by omega)))) | exact .inr (.inr (.inr (.inr ⟨k, x, hk, hx, by assumption⟩))))
            | (refine ⟨vl', vr', endR R k x m.way m.body, true, rfl, .inr ⟨rfl, by omega, by omega, by omega, k, x, hk, hx, by simpa using (by assumption : x.ended = false), rfl⟩, hA.ch (X := fun j => j = b4) Ch.au (fun j hj e => ?_), fun j hj => ?_, Ch.au⟩
               · have e' : j = b4 := e
                 rcases hw j hj with hj | hj
                 · have := hR.lt j hj; omega
                 · omega
               · rcases hw j hj with hj | hj
                 · exact .inl hj
                 · right; omega)
          · refine W_skip ?_
            refine W_seq ?_
            refine W_region ?_
            refine L_r (r_loadrow Try.underlying41 rfl rfl Bk.au (by first | rfl | assumption)) ?_
            refine L_r (r_fieldb Try.underlying33 rfl (show _ = some 1 from rfl) rfl rfl (show _ = 2 from rfl)) ?_
            refine L_r (r_lb rfl rfl) ?_
            refine L_r (r_conv Try.underlying26 Try.underlying3 rfl (by first | exact wr_i64 (by omega) | rfl)) ?_
            refine L_r (r_sub rfl rfl (by first | exact wr_i64 (by omega) | rfl)) ?_
            rw [show m.seq - 1 = (k : Int) by omega]
            refine L_r (r_fieldb Try.underlying33 rfl (show _ = some 1 from rfl) rfl rfl (show _ = 6 from rfl)) ?_
            refine L_r (r_lb rfl rfl) ?_
            refine L_r (r_fieldb Try.underlying33 rfl (show _ = some 1 from rfl) rfl rfl (show _ = 7 from rfl)) ?_
            refine L_r (r_lb rfl rfl) ?_
            refine L_call (.plain rfl) rfl rfl (r_call Try.func35 rfl rfl rfl (by rfl)) (rend_walk base vl vo vr R k x m.way m.body _ (hR.nw Ch.au) hx (by omega) (by omega) (by omega)) ?_
            rintro v50 w10 ⟨vl', vr', rfl, hA, hw, c10⟩
            have hz10 := c10.size
            have k1 := sl_one hA.l.sl
            have k3 := sl_one hA.r.sl
            refine L_storerow (.plain rfl) rfl rfl Bk.au (by first | rfl | (simp; done) | assumption) (by first | rfl | assumption) (by first | exact six_one h1 h2 h3 | exact six_one k1 h2 k3 | rfl | (simp [Value.oneCell']; done)) (fun w11 hb11 hs11 c11 => ?_)
            refine L_r (r_ab rfl) ?_
            refine L_nil ?_
            refine W_ret ?_
            refine r_ret_ct rfl rfl Try.underlying41 rfl Bk.au (by first | rfl | assumption) (show _ = (.bool _ : Value) from rfl) ?_
            first
            | (refine ⟨vl, vr, R, false, rfl, .inl ⟨rfl, rfl, ?_⟩, hR.nw Ch.au, fun j hj => .inl hj, Ch.au⟩
               first | exact .inl (by omega) | exact .inr (.inl (by omega)) | exact .inr (.inr (.inl (by omega))) | exact .inr (.inr (.inr (.inl (by omega)))) | exact .inr (.inr (.inr (.inr ⟨k, x, hk, hx, by assumption⟩))))
            | (refine ⟨vl', vr', endR R k x m.way m.body, true, rfl, .inr ⟨rfl, by omega, by omega, by omega, k, x, hk, hx, by simpa using (by assumption : x.ended = false), rfl⟩, hA.ch (X := fun j => j = b4) Ch.au (fun j hj e => ?_), fun j hj => ?_, Ch.au⟩
               · have e' : j = b4 := e
                 rcases hw j hj with hj | hj
                 · have := hR.lt j hj; omega
                 · omega
               · rcases hw j hj with hj | hj
                 · exact .inl hj
                 · right; omega)
theorem eqRst (a b a' b' : Int) (d d' : ByteArray) (W : World) :
    (Op.equal 58 (.agg #[.int .u64 a, .int .i64 b, .string d]) (.agg #[.int .u64 a', .int .i64 b', .string d'])).run Try.prog W = .ok (decide (a = a' ∧ b = b' ∧ d = d')) W := by
  rw [eq_struct Try.underlying58 (by kernel_rfl)]
  refine (eqF_cons (by decide) (by kernel_rfl) rfl rfl (eqI_int Try.underlying26) (eqF_cons (by decide) (by kernel_rfl) rfl rfl (eqI_int Try.underlying3) (eqF_cons (by decide) (by kernel_rfl) rfl rfl (eqI_string Try.underlying9) eqF_nil))).trans ?_
  congr 1
  by_cases h : a = a' ∧ b = b' ∧ d = d'
  · rw [decide_eq_true h, decide_eq_true (by simpa using h)]
  · rw [decide_eq_false h, decide_eq_false (by simpa using h)]
theorem samem_walk (v v' : Value) (L : List Msg) (w0 : World) (hv : Sl w0 v 8 L.length (cellsM L)) (hv' : Sl w0 v' 8 L.length (cellsM L)) (hl : L.length ≤ 90000000) : Does Try.prog 20 #[v, v'] w0 (fun r w' => r = .bool true ∧ Nw w0 w') := by
  refine fn_of (n := 26) (args := [v, v']) Try.func20 rfl rfl rfl ?_
  refine W_seq ?_
  refine W_region ?_
  refine L_r (r_ab rfl) ?_
  refine L_nil ?_
  refine W_seq ?_
  refine W_seq ?_
  refine W_region ?_
  refine L_r (r_mv) ?_
  refine L_r (r_lenSl Try.underlying30 (by conv => lhs; whnf) Sl.au) ?_
  refine L_r (r_mv) ?_
  refine L_r (r_lenSl Try.underlying30 (by conv => lhs; whnf) Sl.au) ?_
  refine L_r (r_neq rfl rfl) ?_
  refine L_nil ?_
  refine W_if rfl (fun h10 => ?_) (fun h10 => ?_)
  · omega
  · refine W_skip ?_
    refine W_seq ?_
    refine W_seq ?_
    refine W_region ?_
    refine L_r (r_ai rfl) ?_
    refine L_nil ?_
    refine W_block ?_
    refine W_loopF [0, 1] (fun mz_ f W => ∃ (i : Nat), f 5 = .int .i64 i ∧ (i ≤ L.length ∧ Nw w0 W) ∧ mz_ = L.length - i) ?_ ?_
    · refine ⟨_, 0, rfl, ?_, rfl⟩
      exact ⟨by omega, Ch.au⟩
    rintro m0 g0 w1 ⟨i, hf5, hR0, rfl⟩
    refine W_as 5 hf5 rfl ?_
    clear hf5
    obtain ⟨hi, hnw⟩ := hR0
    refine W_seq ?_
    refine W_seq ?_
    refine W_region ?_
    refine L_r (r_mi rfl) ?_
    refine L_r (r_mv) ?_
    refine L_r (r_lenSl Try.underlying30 (by conv => lhs; whnf) Sl.au) ?_
    refine L_r (r_lss rfl rfl) ?_
    refine L_nil ?_
    refine W_if rfl (fun h14 => ?_) (fun h14 => ?_)
    · have hin : i < L.length := by omega
      have hrow := cellsM_row L i hin
      refine W_skip ?_
      refine W_seq ?_
      refine W_block ?_
      refine W_seq ?_
      refine W_still (by kernel_rfl) (by kernel_rfl) (fun w2 c2 hs2 => ?_)
      refine H_r (r_mv) ?_
      refine H_r (r_mi rfl) ?_
      refine H_r (r_ix Try.underlying30 (show _ = some 8 from rfl) (by conv => lhs; whnf) rfl Sl.au) ?_
      refine H_r (r_loadSlrow (us := [.int .i64 L[i].kind, .int .u64 L[i].life, .int .u64 L[i].seq, .int .u64 L[i].below, .int .u64 L[i].object, .string L[i].method, .int .i64 L[i].way, .string L[i].body]) Try.underlying33 rfl rfl rfl rfl Sl.au (by exact hrow)) ?_
      refine H_r (r_mv) ?_
      refine H_r (r_mi rfl) ?_
      refine H_r (r_ix Try.underlying30 (show _ = some 8 from rfl) (by conv => lhs; whnf) rfl Sl.au) ?_
      refine H_r (r_loadSlrow (us := [.int .i64 L[i].kind, .int .u64 L[i].life, .int .u64 L[i].seq, .int .u64 L[i].below, .int .u64 L[i].object, .string L[i].method, .int .i64 L[i].way, .string L[i].body]) Try.underlying33 rfl rfl rfl rfl Sl.au (by exact hrow)) ?_
      refine H_r (r_neqR (xs := #[.int _ _, .int _ _, .int _ _, .int _ _, .int _ _, .string _, .int _ _, .string _]) (ys := #[.int _ _, .int _ _, .int _ _, .int _ _, .int _ _, .string _, .int _ _, .string _]) rfl rfl (by kernel_rfl) (eqMsg _ _ _ _ _ _ _ _ _ _ _ _ _ _ _ _ _)) ?_
      refine H_nil ?_
      refine W_if rfl (fun h25 => ?_) (fun h25 => ?_)
      · exact absurd ⟨rfl, rfl, rfl, rfl, rfl, rfl, rfl, rfl⟩ h25
      · refine W_skip ?_
        refine W_region ?_
        refine L_r (r_mi rfl) ?_
        refine L_r (r_add rfl rfl (by first | exact wr_i64 (by omega) | rfl)) ?_
        refine L_r (r_ai rfl) ?_
        refine L_nil ?_
        refine ⟨⟨rfl, rfl, trivial⟩, _, ?_, i + 1, rfl, ?_, rfl⟩
        · omega
        exact ⟨by omega, Ch.au⟩
    · refine W_exit ?_
      repeat (first | refine blk_hit ?_ | refine blk_miss rfl ?_)
      refine W_seq ?_
      refine W_region ?_
      refine L_r (r_ab rfl) ?_
      refine L_nil ?_
      refine W_ret ?_
      refine ret1 (v := .bool _) rfl rfl ?_
      exact ⟨rfl, Ch.au⟩
theorem samer_walk (v v' : Value) (L : List Rst) (w0 : World) (hv : Sl w0 v 3 L.length (cellsT L)) (hv' : Sl w0 v' 3 L.length (cellsT L)) (hl : L.length ≤ 90000000) : Does Try.prog 25 #[v, v'] w0 (fun r w' => r = .bool true ∧ Nw w0 w') := by
  refine fn_of (n := 26) (args := [v, v']) Try.func25 rfl rfl rfl ?_
  refine W_seq ?_
  refine W_region ?_
  refine L_r (r_ab rfl) ?_
  refine L_nil ?_
  refine W_seq ?_
  refine W_seq ?_
  refine W_region ?_
  refine L_r (r_mv) ?_
  refine L_r (r_lenSl Try.underlying34 (by conv => lhs; whnf) Sl.au) ?_
  refine L_r (r_mv) ?_
  refine L_r (r_lenSl Try.underlying34 (by conv => lhs; whnf) Sl.au) ?_
  refine L_r (r_neq rfl rfl) ?_
  refine L_nil ?_
  refine W_if rfl (fun h10 => ?_) (fun h10 => ?_)
  · omega
  · refine W_skip ?_
    refine W_seq ?_
    refine W_seq ?_
    refine W_region ?_
    refine L_r (r_ai rfl) ?_
    refine L_nil ?_
    refine W_block ?_
    refine W_loopF [0, 1] (fun mz_ f W => ∃ (i : Nat), f 5 = .int .i64 i ∧ (i ≤ L.length ∧ Nw w0 W) ∧ mz_ = L.length - i) ?_ ?_
    · refine ⟨_, 0, rfl, ?_, rfl⟩
      exact ⟨by omega, Ch.au⟩
    rintro m0 g0 w1 ⟨i, hf5, hR0, rfl⟩
    refine W_as 5 hf5 rfl ?_
    clear hf5
    obtain ⟨hi, hnw⟩ := hR0
    refine W_seq ?_
    refine W_seq ?_
    refine W_region ?_
    refine L_r (r_mi rfl) ?_
    refine L_r (r_mv) ?_
    refine L_r (r_lenSl Try.underlying34 (by conv => lhs; whnf) Sl.au) ?_
    refine L_r (r_lss rfl rfl) ?_
    refine L_nil ?_
    refine W_if rfl (fun h14 => ?_) (fun h14 => ?_)
    · have hin : i < L.length := by omega
      have hrow := cellsT_row L i hin
      refine W_skip ?_
      refine W_seq ?_
      refine W_block ?_
      refine W_seq ?_
      refine W_still (by kernel_rfl) (by kernel_rfl) (fun w2 c2 hs2 => ?_)
      refine H_r (r_mv) ?_
      refine H_r (r_mi rfl) ?_
      refine H_r (r_ix Try.underlying34 (show _ = some 3 from rfl) (by conv => lhs; whnf) rfl Sl.au) ?_
      refine H_r (r_loadSlrow (us := [.int .u64 L[i].seq, .int .i64 L[i].way, .string L[i].body]) Try.underlying58 rfl rfl rfl rfl Sl.au (by exact hrow)) ?_
      refine H_r (r_mv) ?_
      refine H_r (r_mi rfl) ?_
      refine H_r (r_ix Try.underlying34 (show _ = some 3 from rfl) (by conv => lhs; whnf) rfl Sl.au) ?_
      refine H_r (r_loadSlrow (us := [.int .u64 L[i].seq, .int .i64 L[i].way, .string L[i].body]) Try.underlying58 rfl rfl rfl rfl Sl.au (by exact hrow)) ?_
      refine H_r (r_neqR (xs := #[.int _ _, .int _ _, .string _]) (ys := #[.int _ _, .int _ _, .string _]) rfl rfl (by kernel_rfl) (eqRst _ _ _ _ _ _ _)) ?_
      refine H_nil ?_
      refine W_if rfl (fun h25 => ?_) (fun h25 => ?_)
      · exact absurd ⟨rfl, rfl, rfl⟩ h25
      · refine W_skip ?_
        refine W_region ?_
        refine L_r (r_mi rfl) ?_
        refine L_r (r_add rfl rfl (by first | exact wr_i64 (by omega) | rfl)) ?_
        refine L_r (r_ai rfl) ?_
        refine L_nil ?_
        refine ⟨⟨rfl, rfl, trivial⟩, _, ?_, i + 1, rfl, ?_, rfl⟩
        · omega
        exact ⟨by omega, Ch.au⟩
    · refine W_exit ?_
      repeat (first | refine blk_hit ?_ | refine blk_miss rfl ?_)
      refine W_seq ?_
      refine W_region ?_
      refine L_r (r_ab rfl) ?_
      refine L_nil ?_
      refine W_ret ?_
      refine ret1 (v := .bool _) rfl rfl ?_
      exact ⟨rfl, Ch.au⟩
end Go.Proofs.Ytjjddbicggfgnaa

