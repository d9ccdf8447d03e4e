/- The document's caller, walked: a call changed, asked for, ended. -/
import Derived.Test.YtjjddbicggfgnaaRef15
namespace Go.Proofs.Ytjjddbicggfgnaa
open Go Go.RowKit
set_option linter.unusedVariables false
set_option linter.unusedSimpArgs false
set_option maxRecDepth 100000
variable {base : Nat} {w w' : World} {vl vo vr : Value} {R : RCal}
abbrev withR (R : RCal) (i : Nat) (x : RCl) : RCal := { R with L := R.L.set i x }
theorem with_walk (base : Nat) (vl vo vr : Value) (R : RCal) (i : Nat) (x : RCl) (w0 : World) (hR : RcAt base w0 vl vo vr R) (hi : i < R.L.length) (hl : R.L.length ≤ 100000) (hbs : base ≤ w0.heap.size) : Does Try.prog 34 #[.agg #[.int .u64 R.life, .int .i64 R.wait, .int .i64 R.most, vl, vo, vr], .int .i64 i, .agg #[.int .i64 x.m.kind, .int .u64 x.m.life, .int .u64 x.m.seq, .int .u64 x.m.below, .int .u64 x.m.object, .string x.m.method, .int .i64 x.m.way, .string x.m.body, .int .i64 x.waited, .int .i64 x.asks, .bool x.ended]] w0 (fun r w' => ∃ vl', r = .agg ((withR R i x).row vl' vo vr) ∧ RcAt base w' vl' vo vr (withR R i x) ∧ (∀ j, vl'.ownBlock = some j → w0.heap.size ≤ j) ∧ Nw w0 w') := by
  have hv := hR.l.sl
  have h1 := sl_one hR.l.sl
  have h2 := sl_one hR.o.sl
  have h3 := sl_one hR.r.sl
  refine fn_of (n := 19) (args := [.agg #[.int .u64 R.life, .int .i64 R.wait, .int .i64 R.most, vl, vo, vr], .int .i64 i, .agg #[.int .i64 x.m.kind, .int .u64 x.m.life, .int .u64 x.m.seq, .int .u64 x.m.below, .int .u64 x.m.object, .string x.m.method, .int .i64 x.m.way, .string x.m.body, .int .i64 x.waited, .int .i64 x.asks, .bool x.ended]]) Try.func34 rfl rfl rfl ?_
  refine W_seq ?_
  refine W_region ?_
  refine L_new (.plain rfl) rfl rfl (r_boxa rfl) (fun w1 b3 hb3 eb1 hs1 c1 => ?_)
  refine L_new (.plain rfl) rfl rfl (r_boxa rfl) (fun w2 b5 hb5 eb2 hs2 c2 => ?_)
  refine L_new (.plain rfl) rfl rfl (r_alloca rfl) (fun w3 b6 hb6 eb3 hs3 c3 => ?_)
  refine L_nil ?_
  refine W_seq ?_
  refine W_region ?_
  refine L_build0 (sz := 11) Try.underlying39 rfl (.plain rfl) rfl (fun v8 w4 ho8 eb4 nl8 hs4 c4 => ?_)
  refine L_r (r_fieldb Try.underlying41 rfl (show _ = some 1 from rfl) rfl rfl (show _ = 3 from rfl)) ?_
  refine L_r (r_lb rfl rfl) ?_
  refine L_apow Try.underlying39 rc_info rfl (by decide) (.plain rfl) rfl (by conv => lhs; whnf) (by conv => lhs; whnf) (Ow.of Own.au) Sl.au (cellsC_one R.L) (by unfold maxLen; omega) (by omega) (by omega) (fun v11 w5 ho11 c5 hob11 => ?_)
  have hz5 := c5.size
  rw [Nat.zero_add, List.nil_append] at ho11
  have h7 := ow_one ho11
  have hlo : ∀ j, v11.ownBlock = some j → b6 < j := fun j hj => by have := ow_base ho11 hj; omega
  have hlo2 : ∀ j, v11.ownBlock = some j → w0.heap.size ≤ j := fun j hj => by have := ow_base ho11 hj; omega
  obtain ⟨A11, k11, hA11, _⟩ := ho11.sl.len
  refine L_r (r_av) ?_
  refine L_nil ?_
  refine W_seq ?_
  refine W_region ?_
  refine L_r (r_mv) ?_
  refine L_r (r_mi rfl) ?_
  refine L_r (r_loadrow Try.underlying75 rfl rfl Bk.au (by first | rfl | assumption)) ?_
  refine L_r (r_ix Try.underlying39 (show _ = some 11 from rfl) (by conv => lhs; whnf) rfl Sl.au) ?_
  refine L_setOwrow (us := [_, _, _, _, _, _, _, _, _, _, _]) (.plain rfl) rfl rfl rfl rfl Ow.au (by (simp only [List.length_set, List.length_cons, List.length_nil, cellsC_length]; omega)) (fun w6 hb6 hs6 c6 => ?_)
  refine L_nil ?_
  refine W_seq ?_
  refine W_region ?_
  refine L_r (r_mv) ?_
  refine L_r (r_fieldb Try.underlying41 rfl (show _ = some 1 from rfl) rfl rfl (show _ = 3 from rfl)) ?_
  refine L_set (.plain rfl) rfl Bk.au (r_store rfl rfl (by conv => lhs; whnf) (by first | rfl | exact ow_one (by assumption) | exact own_one (by assumption) | exact sl_one (by assumption)) Bk.au (by first | decide | (simp; done) | omega)) (fun w7 hb7 hs7 c7 => ?_)
  try simp only [List.setIfInBounds_toArray, List.set_cons_zero, List.set_cons_succ] at hb7
  refine L_nil ?_
  refine W_seq ?_
  refine W_region ?_
  refine L_r (r_loadrow Try.underlying41 rfl rfl Bk.au (by first | rfl | assumption)) ?_
  refine L_storerow (.plain rfl) rfl rfl Bk.au (by first | rfl | (simp; done) | assumption) (by first | rfl | assumption) (by first | exact six_one h1 h2 h3 | exact six_one h7 h2 h3 | rfl | (simp [Value.oneCell']; done)) (fun w8 hb8 hs8 c8 => ?_)
  refine L_nil ?_
  refine W_ret ?_
  refine r_ret_row rfl rfl Try.underlying41 rfl Bk.au (by first | rfl | assumption) ?_
  have hF : Ow w8 base 75 11 v11 R.L.length (sets (cellsC R.L) (i * 11) (rcl x)) := by
    exact Ow.mono Ow.au (by omega)
  rw [cellsC_set R.L i hi x] at hF
  refine ⟨v11, rfl, ⟨by show Ow _ _ _ _ _ (R.L.set i x).length _; rw [List.length_set]; exact hF, hR.o.to fun i hi => Sm.au, hR.r.to fun i hi => Sm.au⟩, hlo2, Ch.au⟩
end Go.Proofs.Ytjjddbicggfgnaa

