/- The statement CodeTakes, walked. -/
import Derived.Test.YtioonbfinnigpaaGreatDoorRef04p
import Derived.Test.YtioonbfinnigpaaGreatDoorCode11
namespace Go.Proofs.YtioonbfinnigpaaGreatDoor
open Go Go.RowKit
set_option linter.unusedVariables false
set_option linter.unusedSimpArgs false
set_option maxRecDepth 100000
theorem good_take {l : List UInt8} {z : List Ins} {m : List UInt8} (h : rTake l = some (z, m)) : takeL l (0, 0) = z := by
  obtain ⟨hg, ho, _⟩ := (take_ref l).1 z m h
  unfold takeL
  rw [if_neg (by rintro (k | k | k); exact k hg.e; (rw [hg.ok] at k; cases k); exact k hg.all), ho]
theorem takes_key {z : List Ins} {n : Nat} (ha : allI z = 0) (hs : ∀ x ∈ z, (-9223372036854775808 ≤ x.n ∧ x.n ≤ 9223372036854775807) ∧ x.s.size ≤ 1000) (hl : z.length ≤ 200) (hn : n ≤ 18446744073709551615) :
    takeL (putL z ++ varL n) (0, 0) = z ∧ nm (putL z ++ varL n) (takeA (putL z ++ varL n) (0, 0)).st = n ∧ endE (putL z ++ varL n) (ns (putL z ++ varL n) (takeA (putL z ++ varL n) (0, 0)).st) = 0 := by
  have ht := take_put ha hs hl (varL n)
  refine ⟨good_take ht, ?_⟩
  obtain ⟨hg, _, hd⟩ := (take_ref _).1 z (varL n) ht
  have he := hg.e
  have hle := hg.le
  generalize (takeA (putL z ++ varL n) (0, 0)).st = st at hd he hle
  obtain ⟨a, e⟩ := st
  simp only at hd he hle
  subst he
  obtain ⟨h1, h2⟩ := ns_of (l := putL z ++ varL n) (rest := []) (a := a) hn (by rw [List.append_nil]; exact hd)
  refine ⟨h1, ?_⟩
  rw [h2]
  have hlen := congrArg List.length hd
  rw [List.length_drop] at hlen
  unfold endE
  rw [if_neg (by rintro ⟨_, k⟩; apply k; show a + _ = _; omega)]
set_option maxHeartbeats 2000000 in
theorem CodeTakes_n (v : Value) (z : List Ins) (m : Nat) (w0 : World) (hv : Sl w0 v 3 z.length (cellsI z)) (hzn : ∀ x ∈ z, -9223372036854775808 ≤ x.n ∧ x.n ≤ 9223372036854775807) (hm : m ≤ 18446744073709551615) (hL : Lv w0) : Does Tryz.prog 3 #[v, .int .u64 (m : Int)] w0 (fun r w' => r = .bool true ∧ Nw w0 w') := by
  have hG := fun W (c : Nw w0 W) => hL.gv.nw c (Nat.le_refl _)
  have hF := fun W (c : Nw w0 W) => hL.fv.nw c (Nat.le_refl _)
  have hml : (varL m).length ≤ 10 := varL_ten hm
  refine fn_of (n := 58) (args := [v, .int .u64 (m : Int)]) Tryz.func3 rfl rfl rfl ?_
  refine W_seq ?_
  refine W_region ?_
  refine L_r (r_ab rfl) ?_
  refine L_nil ?_
  refine W_seq ?_
  refine W_seq ?_
  refine W_region ?_
  refine L_r (r_mv) ?_
  refine L_call (.plain rfl) rfl rfl (r_call Tryz.func6 rfl rfl rfl (by rfl)) (few_walk v z _ Sl.au) ?_
  rintro v11 w1 ⟨b, rfl, hfew, c1⟩
  have hz1 := c1.size
  refine L_r (r_not rfl) ?_
  refine L_r (r_mb rfl) ?_
  refine L_caseb (d := 13) rfl (fun h13 => ?_) (fun h13 => ?_)
  · refine L_ps ?_
    refine L_ps ?_
    refine L_ps ?_
    refine L_r (r_pt rfl rfl) ?_
    refine L_r (r_mb rfl) ?_
    refine L_ps ?_
    refine L_ps ?_
    refine L_ps ?_
    refine L_r (r_pt rfl rfl) ?_
    refine L_nil ?_
    refine W_true rfl ?_
    refine W_seq ?_
    refine W_region ?_
    refine L_call (.plain rfl) rfl rfl (r_call Tryz.func8 rfl rfl rfl (by rfl)) (awake04_walk w0.heap.size _ (hG _ Ch.au) (hF _ Ch.au) (by omega)) ?_
    rintro v23 w2 ⟨rfl, c2⟩
    have hz2 := c2.size
    refine L_r (r_ab rfl) ?_
    refine L_nil ?_
    refine W_ret ?_
    refine ret1 (v := .bool _) rfl rfl ?_
    refine ⟨?_, Ch.au⟩
    first
    | rfl
    | exact congrArg Value.bool (decide_eq_true rfl)
  · have hfw := hfew (by simpa using h13)
    have hsz : ∀ x ∈ z, (-9223372036854775808 ≤ x.n ∧ x.n ≤ 9223372036854775807) ∧ x.s.size ≤ 1000 := fun x hx => ⟨hzn x hx, by have := (hfw.2 x hx).2; omega⟩
    have hl250 := hfw.1
    refine L_g (r_mv) ?_
    refine L_g (r_lenSl Tryz.underlying22 (by conv => lhs; whnf) Sl.au) ?_
    refine L_g (r_gtr rfl rfl) ?_
    refine L_r (r_pf rfl rfl) ?_
    refine L_r (r_mb rfl) ?_
    refine L_case (d := 18) rfl (fun h18 => ?_) (fun h18 => ?_)
    · refine L_ps ?_
      refine L_ps ?_
      refine L_ps ?_
      refine L_r (r_pt rfl rfl) ?_
      refine L_nil ?_
      refine W_true rfl ?_
      refine W_seq ?_
      refine W_region ?_
      refine L_call (.plain rfl) rfl rfl (r_call Tryz.func8 rfl rfl rfl (by rfl)) (awake04_walk w0.heap.size _ (hG _ Ch.au) (hF _ Ch.au) (by omega)) ?_
      rintro v23 w3 ⟨rfl, c3⟩
      have hz3 := c3.size
      refine L_r (r_ab rfl) ?_
      refine L_nil ?_
      refine W_ret ?_
      refine ret1 (v := .bool _) rfl rfl ?_
      refine ⟨?_, Ch.au⟩
      first
      | rfl
      | exact congrArg Value.bool (decide_eq_true rfl)
    · refine L_g (r_mv) ?_
      refine L_call (.yes 8 false rfl rfl) rfl rfl (r_call Tryz.func7 rfl rfl rfl (by rfl)) (rall04_walk v z _ Sl.au (by omega) (fun x hx => by have := (hsz x hx).2; omega)) ?_
      rintro v20 w4 ⟨rfl, c4⟩
      have hz4 := c4.size
      refine L_g (r_neq rfl rfl) ?_
      refine L_r (r_pf rfl rfl) ?_
      refine L_nil ?_
      refine W_if rfl (fun h22 => ?_) (fun h22 => ?_)
      · refine W_seq ?_
        refine W_region ?_
        refine L_call (.plain rfl) rfl rfl (r_call Tryz.func8 rfl rfl rfl (by rfl)) (awake04_walk w0.heap.size _ (hG _ Ch.au) (hF _ Ch.au) (by omega)) ?_
        rintro v23 w5 ⟨rfl, c5⟩
        have hz5 := c5.size
        refine L_r (r_ab rfl) ?_
        refine L_nil ?_
        refine W_ret ?_
        refine ret1 (v := .bool _) rfl rfl ?_
        refine ⟨?_, Ch.au⟩
        first
        | rfl
        | exact congrArg Value.bool (decide_eq_true rfl)
      · have ha : allI z = 0 := Classical.not_not.1 h22
        have hl200 : z.length ≤ 200 := by omega
        obtain ⟨hk1, hk2, hk3⟩ := takes_key ha hsz hl200 hm
        have hLl : (putL z ++ varL m).length ≤ 1000000 := by
          have := put_len z hsz
          have : (varL z.length).length ≤ 10 := varL_ten (by omega)
          rw [List.length_append]; unfold putL; rw [List.length_append]; omega
        have hps := sb_size (putL z)
        have hms := sb_size (varL m)
        have hLl2 := hLl
        rw [List.length_append] at hLl2
        refine W_skip ?_
        refine W_seq ?_
        refine W_region ?_
        refine L_r (r_mv) ?_
        refine L_call (.plain rfl) rfl rfl (r_call Tryz.func10 rfl rfl rfl (by rfl)) (rput04_walk v z _ Sl.au (by omega) hsz (all_ok ha)) ?_
        rintro v25 w6 ⟨rfl, c6⟩
        have hz6 := c6.size
        refine L_r (r_mi rfl) ?_
        refine L_call (.plain rfl) rfl rfl (r_call Tryz.func11 rfl rfl rfl (by rfl)) (rvar_walk m _ hm) ?_
        rintro v27 w7 ⟨rfl, c7⟩
        have hz7 := c7.size
        refine L_r (r_adds rfl rfl (by first | omega | (simp only [ByteArray.size_append]; omega))) ?_
        rw [← sb_append]
        generalize putL z ++ varL m = L at hk1 hk2 hk3 hLl
        refine L_sbytes Tryz.underlying9 Tryz.underlying30 Tryz.underlying5 (by first | omega | (simp only [sb_size, ByteArray.size_append]; omega)) (.plain rfl) rfl rfl (fun v29 w8 hv29 c8 eb8 hs8 => ?_)
        rw [bs_sb] at hv29
        refine L_call (.plain rfl) rfl rfl (r_call Tryz.func9 rfl rfl rfl (by rfl)) (read_walk v29 L _ Sl.au (by omega)) ?_
        rintro v30 w9 ⟨br, vr, rfl, hRd, c9⟩
        have hz9 := c9.size
        have hbr := hRd.hb
        have hRb : RdAt w0.heap.size w9 br vr L 0 0 := hRd.down (by omega)
        have hbrl := hRb.bk.lt
        refine L_r (r_ap rfl) ?_
        refine L_nil ?_
        refine W_seq ?_
        refine W_seq ?_
        refine W_region ?_
        refine L_call (.plain rfl) rfl rfl (r_call Tryz.func8 rfl rfl rfl (by rfl)) (awake04_walk w0.heap.size _ (hG _ Ch.au) (hF _ Ch.au) (by omega)) ?_
        rintro v31 w10 ⟨rfl, c10⟩
        have hz10 := c10.size
        refine L_r (r_not rfl) ?_
        refine L_as (v := .bool _) (v' := .bool false) 32 rfl (congrArg Value.bool (by rfl)) ?_
        refine L_r (r_mb rfl) ?_
        refine L_g (r_mp rfl) ?_
        refine L_g (r_eqpnil Tryz.underlying28 rfl rfl) ?_
        refine L_as (v := .bool _) (v' := .bool false) 35 rfl (congrArg Value.bool (by rfl)) ?_
        refine L_r (r_pf rfl rfl) ?_
        refine L_nil ?_
        refine W_false rfl ?_
        refine W_skip ?_
        refine W_seq ?_
        refine W_region ?_
        refine L_r (r_mp rfl) ?_
        refine L_call (.plain rfl) rfl rfl (r_call Tryz.func12 rfl rfl rfl (by rfl)) (itake_walk w0.heap.size br vr L 0 0 _ (hG _ Ch.au) (hRb.nw Ch.au) (by omega)) ?_
        rintro v38 w11 ⟨vt, rfl, hot, hRt, c11⟩
        have hz11 := c11.size
        rw [hk1] at hot
        have hvr := fun i hi => (hRb.ow.lt (k := i) hi)
        generalize (takeA L (0, 0)).st = st at hRt hk2 hk3
        refine L_r (r_av) ?_
        refine L_nil ?_
        refine W_seq ?_
        refine W_region ?_
        refine L_r (r_mp rfl) ?_
        refine L_call (.plain rfl) rfl rfl (r_call Tryz.func13 rfl rfl rfl (by rfl)) (rd_num w0.heap.size br vr L st _ (hRt.nw Ch.au) (by omega)) ?_
        rintro v40 w12 ⟨rfl, hRn, c12⟩
        have hz12 := c12.size
        rw [hk2]
        refine L_r (r_ai rfl) ?_
        refine L_nil ?_
        refine W_seq ?_
        refine W_region ?_
        refine L_r (r_mp rfl) ?_
        refine L_call (.plain rfl) rfl rfl (r_call Tryz.func14 rfl rfl rfl (by rfl)) (rd_end w0.heap.size br vr L (ns L st) _ (hRn.nw Ch.au)) ?_
        rintro v43 w13 ⟨ae, rfl, c13⟩
        have hz13 := c13.size
        rw [hk3]
        refine L_r (r_mv) ?_
        refine L_r (r_ext2_0 rfl) ?_
        refine L_r (r_ext2_1 rfl) ?_
        refine L_r (r_ai rfl) ?_
        refine L_r (r_ai rfl) ?_
        refine L_nil ?_
        refine W_seq ?_
        refine W_region ?_
        refine L_r (r_mv) ?_
        refine L_r (r_mv) ?_
        refine L_call (.plain rfl) rfl rfl (r_call Tryz.func15 rfl rfl rfl (by rfl)) (rsame04_walk v z _ z _ Sl.au Sl.au (by omega)) ?_
        rintro v48 w14 ⟨bb, rfl, hbb, c14⟩
        have hz14 := c14.size
        refine L_r (r_mb rfl) ?_
        refine L_as (v := .bool _) (v' := .bool true) 49 rfl (congrArg Value.bool (by exact hbb.2 rfl)) ?_
        refine L_g (r_mi rfl) ?_
        refine L_g (r_mi rfl) ?_
        refine L_g (r_eql rfl rfl) ?_
        refine L_as (v := .bool _) (v' := .bool true) 52 rfl (dec_t (by rfl)).symm ?_
        refine L_r (r_pt rfl rfl) ?_
        refine L_r (r_mb rfl) ?_
        refine L_g (r_mi rfl) ?_
        refine L_g (r_eql rfl rfl) ?_
        refine L_r (r_pt rfl rfl) ?_
        refine L_r (r_ab rfl) ?_
        refine L_nil ?_
        refine W_ret ?_
        refine ret1 (v := .bool _) rfl rfl ?_
        refine ⟨?_, Ch.au⟩
        first
        | rfl
        | exact congrArg Value.bool (decide_eq_true rfl)
theorem CodeTakes_walk (v : Value) (z : List Ins) (a : Int) (w0 : World) (hz : Sl w0 v 3 z.length (cellsI z) ∧ ∀ x ∈ z, -9223372036854775808 ≤ x.n ∧ x.n ≤ 9223372036854775807) (ha : 0 ≤ a ∧ a ≤ 18446744073709551615) (hL : Lv w0) :
    Does Tryz.prog 3 #[v, .int .u64 a] w0 (fun r w' => r = .bool true ∧ Nw w0 w') := by
  obtain ⟨m, rfl⟩ : ∃ m : Nat, a = m := ⟨a.toNat, by omega⟩
  exact CodeTakes_n v z m w0 hz.1 hz.2 (by omega) hL
end Go.Proofs.YtioonbfinnigpaaGreatDoor

