/- Parts of the proof (Scr27, Scr28, Scr29, Scr30, Scr31, ScrC). -/
import Derived.Test.YtgmeojpekdekeaaGreatDoorMSg
import Derived.HandedShaped
import Derived.LaidMore
import Derived.Lay
import Derived.Lib.LaidIn
import Derived.Lib.LaidU8T
import Derived.ProofKit
import Derived.Shelf.Vars
import Derived.Stop.LaidErr
import Derived.Test.YtgmeojpekdekeaaGreatDoorCards
namespace Go.Proofs.YtgmeojpekdekeaaGreatDoor
open Go Go.RowKit Go.ChangeShapes
set_option linter.unusedVariables false
set_option linter.unusedSimpArgs false
set_option maxRecDepth 100000
section
variable {H : Type} {enc : TypeId × Value → H} {W : World} {G : TypeId → DataW H → Prop} {R : Nat}
abbrev rdAt (enc : TypeId × Value → H) (W : World) (n : Nat) (t : TypeId) (cs : List Value) (d : DataW H) (p : List MemPlace) : Prop := DataW.trod enc Tryz.prog W 0 (fun _ => true) true n t cs = some (d, p)
theorem rd_S {n : Nat} {c : Value} {d : DataW H} {p : List MemPlace} (h : rdAt enc W n 9 [c] d p) (hG : Inh Tryz.prog G R) (hw : G 9 d) : ∃ s : ByteArray, c = .string s ∧ s.size ≤ R := by
  obtain ⟨s, e, hx, _⟩ := DataW.trod_string Tryz.underlying9 h
  injection e with e
  refine ⟨s, e, ?_⟩
  have hd : d = .lit (.string s.data.toList) := congrArg Prod.fst hx
  subst hd
  have h2 := hG.str hw
  rw [Array.length_toList] at h2
  exact h2
theorem rd_N {n : Nat} {c : Value} {d : DataW H} {p : List MemPlace} (h : rdAt enc W n 3 [c] d p) : ∃ m : Int, c = .int .i64 m ∧ (-9223372036854775808 ≤ m ∧ m ≤ 9223372036854775807) := by
  obtain ⟨m, e, _, k⟩ := DataW.trod_int Tryz.underlying3 h
  injection e with e
  exact ⟨m, e, by simpa [Lit.wf, IntKind.min, IntKind.max, IntKind.signed, IntKind.bits] using k⟩
theorem rd_L {n : Nat} {c : Value} {d : DataW H} {p : List MemPlace} (h : rdAt enc W n 2 [c] d p) : ∃ m : Int, c = .int .i64 m ∧ (-9223372036854775808 ≤ m ∧ m ≤ 9223372036854775807) := by
  obtain ⟨m, e, _, k⟩ := DataW.trod_int Tryz.underlying2 h
  injection e with e
  exact ⟨m, e, by simpa [Lit.wf, IntKind.min, IntKind.max, IntKind.signed, IntKind.bits] using k⟩
theorem rd_U {n : Nat} {c : Value} {d : DataW H} {p : List MemPlace} (h : rdAt enc W n 26 [c] d p) : ∃ u : Nat, c = .int .u64 (u : Int) ∧ u ≤ 18446744073709551615 := by
  obtain ⟨m, e, _, k⟩ := DataW.trod_int Tryz.underlying26 h
  injection e with e
  have k2 : 0 ≤ m ∧ m ≤ 18446744073709551615 := by simpa [Lit.wf, IntKind.min, IntKind.max, IntKind.signed, IntKind.bits] using k
  exact ⟨m.toNat, by rw [e]; congr 1; omega, by omega⟩
/-- What is known of a value. -/
def vGood (R : Nat) (v : Va) : Prop := (-9223372036854775808 ≤ v.n ∧ v.n ≤ 9223372036854775807) ∧ v.s.size ≤ R ∧ (-9223372036854775808 ≤ v.ref ∧ v.ref ≤ 9223372036854775807)
theorem rdc_V (n : Nat) (cs : List Value) (d : DataW H) (p : List MemPlace) (h : rdAt enc W n 43 cs d p) (hG : Inh Tryz.prog G R) (hw : G 43 d) : ∃ x : Va, cs = val x ∧ vGood R x := by
  obtain ⟨hl, hf⟩ := st_sz hG Tryz.underlying43 h hw
  have hl8 : cs.length = 4 := hl
  match cs, hl8 with
  | [c0, c1, c2, c3], _ =>
    obtain ⟨_, _, _, g0, w0⟩ := hf 0 _ rfl
    obtain ⟨_, _, _, g1, w1⟩ := hf 1 _ rfl
    obtain ⟨_, _, _, g2, w2⟩ := hf 2 _ rfl
    obtain ⟨_, _, _, g3, w3⟩ := hf 3 _ rfl
    obtain ⟨m0, rfl, k0⟩ := rd_N g0
    obtain ⟨m1, rfl, k1⟩ := rd_L g1
    obtain ⟨s2, rfl, k2⟩ := rd_S g2 hG w2
    obtain ⟨m3, rfl, k3⟩ := rd_N g3
    exact ⟨⟨m0, m1, s2, m3⟩, rfl, k1, k2, k3⟩
instance : Inhabited Va := ⟨⟨0, 0, mtB, 0⟩⟩
instance : Inhabited DD := ⟨DD0⟩
instance : Inhabited Gt := ⟨⟨0, 0, 0, default, mtB⟩⟩
theorem rdr_V {n : Nat} {c : Value} {d : DataW H} {p : List MemPlace} (h : rdAt enc W n 27 [c] d p) (hG : Inh Tryz.prog G R) (hw : G 27 d) : ∃ z : List Va, Sl W c 4 z.length (cellsVa z) ∧ (∀ x ∈ z, vGood R x) ∧ z.length ≤ R := by
  obtain ⟨v, z, e, h1, h2, h3⟩ := sl_trod val 4 (vGood R) hG (fun _ => rfl) (by decide) Tryz.underlying27 rfl (by decide) (fun n cs d p h k => rdc_V n cs d p h hG k) h hw
  injection e with e
  subst e
  exact ⟨z, h1, h2, h3⟩
/-- What is known of a deed that is handed in. -/
structure dGood (R : Nat) (W : World) (x : DD) : Prop where
  ok : x.ok W
  ran : ranD x.d
  len : x.d.args.length ≤ R
  met : x.d.method.size ≤ R
  cls : x.d.cls.size ≤ R
  knd : x.d.kind.size ≤ R
  byt : x.d.bytes.size ≤ R
theorem rdc_D (n : Nat) (cs : List Value) (d : DataW H) (p : List MemPlace) (h : rdAt enc W n 29 cs d p) (hG : Inh Tryz.prog G R) (hw : G 29 d) : ∃ x : DD, cs = ddl x ∧ dGood R W x := by
  obtain ⟨hl, hf⟩ := st_sz hG Tryz.underlying29 h hw
  have hl8 : cs.length = 10 := hl
  match cs, hl8 with
  | [c0, c1, c2, c3, c4, c5, c6, c7, c8, c9], _ =>
    obtain ⟨_, _, _, g0, w0⟩ := hf 0 _ rfl
    obtain ⟨_, _, _, g1, w1⟩ := hf 1 _ rfl
    obtain ⟨_, _, _, g2, w2⟩ := hf 2 _ rfl
    obtain ⟨_, _, _, g3, w3⟩ := hf 3 _ rfl
    obtain ⟨_, _, _, g4, w4⟩ := hf 4 _ rfl
    obtain ⟨_, _, _, g5, w5⟩ := hf 5 _ rfl
    obtain ⟨_, _, _, g6, w6⟩ := hf 6 _ rfl
    obtain ⟨_, _, _, g7, w7⟩ := hf 7 _ rfl
    obtain ⟨_, _, _, g8, w8⟩ := hf 8 _ rfl
    obtain ⟨_, _, _, g9, w9⟩ := hf 9 _ rfl
    obtain ⟨s0, rfl, k0⟩ := rd_S g0 hG w0
    obtain ⟨m1, rfl, k1⟩ := rd_N g1
    obtain ⟨u2, rfl, k2⟩ := rd_U g2
    obtain ⟨s3, rfl, k3⟩ := rd_S g3 hG w3
    obtain ⟨z4, k4, l4, n4⟩ := rdr_V g4 hG w4
    obtain ⟨m5, rfl, k5⟩ := rd_N g5
    obtain ⟨m6, rfl, k6⟩ := rd_N g6
    obtain ⟨m7, rfl, k7⟩ := rd_N g7
    obtain ⟨s8, rfl, k8⟩ := rd_S g8 hG w8
    obtain ⟨s9, rfl, k9⟩ := rd_S g9 hG w9
    exact ⟨⟨⟨s0, m1, u2, s3, z4, m5, m6, m7, s8, s9⟩, c4⟩, rfl, k4, ⟨k2, fun v hv => (l4 v hv).1⟩, n4, k3, k8, k0, k9⟩
theorem rd_22 {b0 : Nat} {v : Value} {d : DataW H} {p : List MemPlace}
    (hok : Value.okWide Tryz.prog W .any b0 22 v) (hw : ∀ k ∈ d.weights Tryz.prog 22, k ≤ 140737488351232) (h : DataW.Trod enc Tryz.prog W 0 (fun _ => true) true 22 v d p) : ∃ z : List DD, Sl W v 10 z.length (cellsDD z) ∧ (∀ x ∈ z, dGood 140737488351232 W x) ∧ z.length ≤ 140737488351232 := by
  obtain ⟨n, hy⟩ := h
  have hG := inh_weights (H := H) Tryz.prog 140737488351232
  obtain ⟨v', z, e, h1, h2, h3⟩ := sl_trod ddl 10 (dGood 140737488351232 W) hG (fun _ => rfl) (by decide) Tryz.underlying22 rfl (by decide) (fun n cs d p h k => rdc_D n cs d p h hG k) hy hw
  have e2 : v = v' := by
    unfold Value.okWide at hok
    rw [Tryz.underlying22] at hok
    unfold Cell.okWide at hok
    rw [Tryz.underlying22] at hok
    unfold Cell.ok at hok
    rw [Tryz.underlying22] at hok
    cases v <;> first | exact hok.elim | (injection e)
  subst e2
  exact ⟨z, h1, h2, h3⟩
/-- What is known of an outcome that is handed in. -/
def gGood (R : Nat) (g : Gt) : Prop := g.life ≤ 18446744073709551615 ∧ g.seq ≤ 18446744073709551615 ∧ g.body.size ≤ R ∧ vGood R g.v ∧ (-9223372036854775808 ≤ g.way ∧ g.way ≤ 9223372036854775807)
theorem rdc_G (n : Nat) (cs : List Value) (d : DataW H) (p : List MemPlace) (h : rdAt enc W n 45 cs d p) (hG : Inh Tryz.prog G R) (hw : G 45 d) : ∃ x : Gt, cs = gtl x ∧ gGood R x := by
  obtain ⟨hl, hf⟩ := st_sz hG Tryz.underlying45 h hw
  have hl8 : cs.length = 8 := hl
  match cs, hl8 with
  | [c0, c1, c2, c3, c4, c5, c6, c7], _ =>
    obtain ⟨_, _, _, g0, w0⟩ := hf 0 _ rfl
    obtain ⟨_, _, _, g1, w1⟩ := hf 1 _ rfl
    obtain ⟨_, _, _, g2, w2⟩ := hf 2 _ rfl
    obtain ⟨_, _, _, g3, w3⟩ := hf 3 _ rfl
    obtain ⟨_, _, _, g4, w4⟩ := hf 4 _ rfl
    obtain ⟨u0, rfl, k0⟩ := rd_U g0
    obtain ⟨u1, rfl, k1⟩ := rd_U g1
    obtain ⟨m2, rfl, k2⟩ := rd_N g2
    obtain ⟨x3, e3, k3⟩ := rdc_V _ _ _ _ g3 hG w3
    obtain ⟨s4, rfl, k4⟩ := rd_S g4 hG w4
    injection e3 with e30 e3
    injection e3 with e31 e3
    injection e3 with e32 e3
    injection e3 with e33 e3
    subst e30 e31 e32 e33
    exact ⟨⟨u0, u1, m2, x3, s4⟩, rfl, k0, k1, k4, k3, k2⟩
theorem rd_41 {b0 : Nat} {v : Value} {d : DataW H} {p : List MemPlace}
    (hok : Value.okWide Tryz.prog W .any b0 41 v) (hw : ∀ k ∈ d.weights Tryz.prog 41, k ≤ 140737488351232) (h : DataW.Trod enc Tryz.prog W 0 (fun _ => true) true 41 v d p) : ∃ z : List Gt, Sl W v 8 z.length (cellsGt z) ∧ (∀ x ∈ z, gGood 140737488351232 x) ∧ z.length ≤ 140737488351232 := by
  obtain ⟨n, hy⟩ := h
  have hG := inh_weights (H := H) Tryz.prog 140737488351232
  obtain ⟨v', z, e, h1, h2, h3⟩ := sl_trod gtl 8 (gGood 140737488351232) hG (fun _ => rfl) (by decide) Tryz.underlying41 rfl (by decide) (fun n cs d p h k => rdc_G n cs d p h hG k) hy hw
  have e2 : v = v' := by
    unfold Value.okWide at hok
    rw [Tryz.underlying41] at hok
    unfold Cell.okWide at hok
    rw [Tryz.underlying41] at hok
    unfold Cell.ok at hok
    rw [Tryz.underlying41] at hok
    cases v <;> first | exact hok.elim | (injection e)
  subst e2
  exact ⟨z, h1, h2, h3⟩
end
theorem dGood.nw {R : Nat} {W W' : World} {x : DD} (h : dGood R W x) (c : Nw W W') : dGood R W' x := ⟨h.ok.nw c, h.ran, h.len, h.met, h.cls, h.knd, h.byt⟩
theorem dGood.askD {W : World} {x : DD} (h : dGood 140737488351232 W x) : askD W x := ⟨h.ok, h.ran, by have := h.len; omega⟩
theorem dGood.askR {W : World} {x : DD} (h : dGood 140737488351232 W x) : askR W x := ⟨h.ok, h.ran, by have := h.len; omega, by have := h.met; omega, by have := h.cls; omega⟩
end Go.Proofs.YtgmeojpekdekeaaGreatDoor

namespace Go.Proofs.YtgmeojpekdekeaaGreatDoor
open Go Go.RowKit
set_option linter.unusedVariables false
set_option linter.unusedSimpArgs false
set_option maxRecDepth 100000
abbrev ad1 : Dd := ⟨kCall, 0, 1, { data := #[97, 100, 100] }, [⟨1, 5, mtB, 0⟩, ⟨4, 0, mtB, 0⟩], 0, 0, 0, mtB, mtB⟩
abbrev aw1 (v : Value) : DD := ⟨ad1, v⟩
abbrev aw2 : DD := ⟨⟨kTurn, 0, 0, mtB, [], 2, 0, 0, mtB, { data := #[255] }⟩, .slice none 0 0⟩
theorem aw1_chk (v : Value) : chkD (aw1 v).d := by
  show chkD ad1
  refine ⟨by decide, by decide, fun _ => by decide, fun x hx => ?_, .inl rfl, .inl rfl, .inl rfl, .inl rfl, .inr (by decide), .inl rfl, fun _ => ⟨by decide +kernel, by decide +kernel⟩, fun h => absurd (by decide) h, fun h => absurd h (by decide), fun _ => rfl⟩
  have hx' : x ∈ [(⟨1, 5, mtB, 0⟩ : Va), ⟨4, 0, mtB, 0⟩] := hx
  simp only [List.mem_cons, List.not_mem_nil, or_false] at hx'
  rcases hx' with rfl | rfl
  · exact .inr (.inl ⟨rfl, rfl, rfl⟩)
  · exact .inr (.inr (.inr ⟨rfl, rfl, rfl, by decide, by decide⟩))
theorem aw2_chk : chkD aw2.d :=
  ⟨by decide, by decide, fun h => absurd rfl h, (fun x hx => nomatch hx), .inl rfl, .inr ⟨by decide, by decide, by decide⟩, .inl rfl, .inl rfl, .inl rfl, .inr ⟨by decide, by decide⟩, fun h => absurd h (by decide), fun _ => rfl, fun h => absurd h (by decide), fun _ => rfl⟩
theorem aw1_ran (v : Value) : ranD (aw1 v).d := by
  show ranD ad1
  refine ⟨by decide, fun x hx => ?_⟩
  have hx' : x ∈ [(⟨1, 5, mtB, 0⟩ : Va), ⟨4, 0, mtB, 0⟩] := hx
  simp only [List.mem_cons, List.not_mem_nil, or_false] at hx'
  rcases hx' with rfl | rfl <;> decide
theorem aw2_ran : ranD aw2.d := ⟨by decide, (fun x hx => nomatch hx)⟩
theorem aw_all (v : Value) : allC [aw1 v, aw2] := by
  intro x hx
  simp only [List.mem_cons, List.not_mem_nil, or_false] at hx
  rcases hx with rfl | rfl
  · exact ⟨aw1_chk v, aw1_ran v⟩
  · exact ⟨aw2_chk, aw2_ran⟩
theorem aw_txt (v : Value) : sb (shwB [aw1 v, aw2]) = { data := #[99, 97, 108, 108, 32, 48, 32, 49, 32, 97, 100, 100, 32, 53, 32, 64, 48, 10, 116, 117, 114, 110, 32, 50, 32, 48, 32, 102, 102, 10] } := by
  have h : shwB [aw1 v, aw2] = shwB [aw1 (.slice none 0 0), aw2] := rfl
  rw [h]
  decide +kernel
theorem sshow_any (base : Nat) (v : Value) (l : List DD) (w0 : World) (hv : Sl w0 v 10 l.length (cellsDD l)) (hl : l.length ≤ 1000) (hx : ∀ x ∈ l, askD w0 x) (hV : Sv base w0) (hb : base ≤ w0.heap.size) :
    Does Tryz.prog 12 #[v] w0 (fun r w' => ∃ s e, r = .tuple #[.string s, .int .i64 e] ∧ ((∀ x ∈ l, chkD x.d) → s = sb (shwB l) ∧ e = 0) ∧ ((¬ ∀ x ∈ l, chkD x.d) → s = mtB ∧ e = 201) ∧ Nw w0 w') := by
  refine (sshow_walk base v l w0 hv hl hx hV hb).mono ?_
  rintro r w' ⟨⟨h, e⟩ | ⟨h, e⟩, c⟩
  · exact ⟨_, _, e, fun _ => ⟨rfl, rfl⟩, fun k => absurd h k, c⟩
  · exact ⟨_, _, e, fun k => absurd k h, fun _ => ⟨rfl, rfl⟩, c⟩
theorem sshow_ok (base : Nat) (v : Value) (l : List DD) (w0 : World) (hv : Sl w0 v 10 l.length (cellsDD l)) (hl : l.length ≤ 1000) (hx : ∀ x ∈ l, askD w0 x) (hc : ∀ x ∈ l, chkD x.d) (hV : Sv base w0) (hb : base ≤ w0.heap.size) :
    Does Tryz.prog 12 #[v] w0 (fun r w' => r = .tuple #[.string (sb (shwB l)), .int .i64 0] ∧ Nw w0 w') := by
  refine (sshow_any base v l w0 hv hl hx hV hb).mono ?_
  rintro r w' ⟨s, e, rfl, h, _, c⟩
  obtain ⟨rfl, rfl⟩ := h hc
  exact ⟨rfl, c⟩
theorem rshow_any (v : Value) (l : List DD) (w0 : World) (hv : Sl w0 v 10 l.length (cellsDD l)) (hl : l.length ≤ 1000000) (hx : ∀ x ∈ l, askR w0 x) :
    Does Tryz.prog 13 #[v] w0 (fun r w' => ∃ s b, r = .tuple #[.string s, .bool b] ∧ (b = true ↔ ∀ x ∈ l, chkD x.d) ∧ ((∀ x ∈ l, chkD x.d) → s = sb (shwB l)) ∧ Nw w0 w') := by
  refine (rshow_walk v l w0 hv hl hx).mono ?_
  rintro r w' ⟨⟨h, e⟩ | ⟨h, e⟩, c⟩
  · exact ⟨_, _, e, ⟨fun _ => h, fun _ => rfl⟩, fun _ => rfl, c⟩
  · exact ⟨_, _, e, ⟨fun k => Bool.noConfusion k, fun k => absurd k h⟩, fun k => absurd k h, c⟩
theorem aw_ask {w : World} {v : Value} (h : Sl w v 4 2 (cellsVa [⟨1, 5, mtB, 0⟩, ⟨4, 0, mtB, 0⟩])) : ∀ x ∈ [aw1 v, aw2], askD w x := by
  intro x hx
  simp only [List.mem_cons, List.not_mem_nil, or_false] at hx
  rcases hx with rfl | rfl
  · exact ⟨h, aw1_ran v, by show (2 : Nat) ≤ _; omega⟩
  · exact ⟨Sl.nil _ _, aw2_ran, by decide⟩
theorem askD.two {w : World} {x : DD} (h : askD w x) : x.ok w ∧ x.d.args.length ≤ 1000000000000000 := ⟨h.ok, h.len⟩
set_option maxHeartbeats 2000000 in
theorem awake_walk (base : Nat) (w0 : World) (hV : Sv base w0) (hb : base ≤ w0.heap.size) : Does Tryz.prog 9 #[] w0 (fun r w' => r = .bool true ∧ Nw w0 w') := by
  refine fn_of (n := 49) (args := []) Tryz.func9 rfl rfl rfl (W_seq (W_region (L_r (r_ab rfl) (L_nil (W_seq (W_region ?_))))))
  refine L_r (r_build1 (pl := [(0, 1), (1, 1), (2, 1), (3, 1)]) (vs := [(0, .int _ _), (1, .int _ _)]) (cells := [_, _, _, _]) Tryz.underlying43 rfl rfl (by rfl) rfl (by rfl)) ?_
  refine L_r (r_build1 (pl := [(0, 1), (1, 1), (2, 1), (3, 1)]) (vs := [(0, .int _ _)]) (cells := [_, _, _, _]) Tryz.underlying43 rfl rfl (by rfl) rfl (by rfl)) ?_
  refine L_buildrow [[_, _, _, _], [_, _, _, _]] Tryz.underlying27 (show _ = some (some _, 4, _) from rfl) rfl rfl (.plain rfl) rfl (by rfl) (by rfl) rfl (fun b9 w1 hb9 hv9 eb1 hs1 c1 => ?_)
  simp only [List.flatten_cons, List.flatten_nil, List.append_nil, List.cons_append, List.nil_append] at hb9 hv9
  refine L_r (r_build1 (pl := [(0, 1), (1, 1), (2, 1), (3, 1), (4, 1), (5, 1), (6, 1), (7, 1), (8, 1), (9, 1)]) (vs := [(0, .string _), (2, .int _ _), (3, .string _), (4, .slice _ _ _)]) (cells := [_, _, _, _, _, _, _, _, _, _]) Tryz.underlying29 rfl rfl (by rfl) rfl (by rfl)) ?_
  refine L_r (r_build1 (pl := [(0, 1), (1, 1), (2, 1), (3, 1), (4, 1), (5, 1), (6, 1), (7, 1), (8, 1), (9, 1)]) (vs := [(0, .string _), (5, .int _ _), (9, .string _)]) (cells := [_, _, _, _, _, _, _, _, _, _]) Tryz.underlying29 rfl rfl (by rfl) rfl (by rfl)) ?_
  refine L_buildrow [[_, _, _, _, _, _, _, _, _, _], [_, _, _, _, _, _, _, _, _, _]] Tryz.underlying22 (show _ = some (some _, 10, _) from rfl) rfl rfl (.plain rfl) rfl (by rfl) (by rfl) rfl (fun b12 w2 hb12 hv12 eb2 hs2 c2 => ?_)
  simp only [List.flatten_cons, List.flatten_nil, List.append_nil, List.cons_append, List.nil_append] at hb12 hv12
  refine L_r (r_av) (L_nil (W_seq (W_region (L_r (r_mv) ?_))))
  refine L_call (.plain rfl) rfl rfl (r_call Tryz.func12 rfl rfl rfl (by rfl)) (sshow_ok base (.slice (some ⟨b12, 0, none⟩) 2 2) [aw1 (.slice (some ⟨b9, 0, none⟩) 2 2), aw2] _ (show Sl _ (.slice (some ⟨b12, 0, none⟩) 2 2) 10 2 (cellsDD [aw1 (.slice (some ⟨b9, 0, none⟩) 2 2), aw2]) from Sl.au) (by show (2 : Nat) ≤ _; omega) (aw_ask Sl.au) (fun x hx => (aw_all _ x hx).1) (hV.nw Ch.au hb) (by omega)) ?_
  rintro v15 w3 ⟨rfl, c3⟩
  have hz3 := c3.size
  refine L_r (r_mv) (L_r (r_ext2_0 rfl) (L_r (r_ext2_1 rfl) (L_r (r_as rfl) (L_r (r_ai rfl) (L_nil (W_seq (W_region (L_r (r_ms rfl) ?_))))))))
  refine L_call (.plain rfl) rfl rfl (r_call Tryz.func14 rfl rfl rfl (by rfl)) (sread_ok base (sb (shwB [aw1 (.slice (some ⟨b9, 0, none⟩) 2 2), aw2])) [aw1 (.slice (some ⟨b9, 0, none⟩) 2 2), aw2] _ (by rw [aw_txt]; decide) (hV.nw Ch.au hb) (by omega) (aw_all _) (bs_sb _)) ?_
  rintro v20 w4 ⟨k, v20, rfl, hk, hka, hko, hkl, c4⟩
  have hz4 := c4.size
  refine L_r (r_mv) (L_r (r_ext3_0 rfl) (L_r (r_ext3_1 rfl) (L_r (r_ext3_2 rfl) (L_r (r_av) (L_r (r_ai rfl) (L_r (r_ai rfl) (L_nil (W_seq ?_))))))))
  refine W_region (L_r (r_ms rfl) (L_r (r_eqls rfl rfl) ?_))
  refine L_as (v := .bool _) (v' := .bool true) 25 rfl (dec_t (by exact aw_txt _)).symm (L_r (r_mb rfl) ?_)
  refine L_g (r_mi rfl) ?_
  refine L_g (r_eql rfl rfl) ?_
  refine L_as (v := .bool _) (v' := .bool true) 28 rfl (dec_t (by rfl)).symm (L_r (r_pt rfl rfl) (L_r (r_mb rfl) ?_))
  refine L_g (r_mv) ?_
  refine L_g (r_mv) ?_
  refine L_call (.yes 6 true rfl rfl) rfl rfl (r_call Tryz.func15 rfl rfl rfl (by rfl)) (rsame_walk (.slice (some ⟨b12, 0, none⟩) 2 2) v20 [aw1 (.slice (some ⟨b9, 0, none⟩) 2 2), aw2] k _ (show Sl _ (.slice (some ⟨b12, 0, none⟩) 2 2) 10 2 (cellsDD [aw1 (.slice (some ⟨b9, 0, none⟩) 2 2), aw2]) from Sl.au) Sl.au (by show (2 : Nat) ≤ _; omega) (by have := congrArg List.length hk; simp at this; omega) (fun x hx => (aw_ask Sl.au x hx).two) (fun x hx => ⟨(hkl x hx).sl.nw Ch.au, by have := (hka x hx).1.len; omega⟩)) ?_
  rintro v33 w5 ⟨bsm, rfl, hbsm, c5⟩
  have hz5 := c5.size
  refine L_as (v := .bool _) (v' := .bool true) 33 rfl (congrArg Value.bool (by exact hbsm.2 hk.symm)) (L_r (r_pt rfl rfl) (L_r (r_mb rfl) ?_))
  refine L_g (r_mi rfl) ?_
  refine L_g (r_eql rfl rfl) ?_
  refine L_as (v := .bool _) (v' := .bool true) 37 rfl (dec_t (by rfl)).symm (L_r (r_pt rfl rfl) (L_r (r_mb rfl) ?_))
  refine L_g (r_mi rfl) ?_
  refine L_g (r_eql rfl rfl) ?_
  refine L_as (v := .bool _) (v' := .bool true) 41 rfl (dec_t (by rfl)).symm (L_r (r_pt rfl rfl) (L_r (r_mb rfl) ?_))
  refine L_g (r_mv) ?_
  refine L_g (r_ix Tryz.underlying22 (show _ = some 10 from rfl) (by conv => lhs; whnf) rfl Sl.au) ?_
  refine L_g (r_loadSlrow (us := ddl (aw1 (.slice (some ⟨b9, 0, none⟩) 2 2))) Tryz.underlying29 rfl rfl rfl rfl Sl.au (by exact cellsDD_row [aw1 (.slice (some ⟨b9, 0, none⟩) 2 2), aw2] 0 (by show 0 < 2; omega))) ?_
  refine L_call (.yes 19 true rfl rfl) rfl rfl (r_call Tryz.func10 rfl rfl rfl (by rfl)) (scheck_walk base (aw1 (.slice (some ⟨b9, 0, none⟩) 2 2)) _ (hV.nw Ch.au hb) (by omega) (show Sl _ (.slice (some ⟨b9, 0, none⟩) 2 2) 4 2 (cellsVa [⟨1, 5, mtB, 0⟩, ⟨4, 0, mtB, 0⟩]) from Sl.au) (by show (2 : Nat) ≤ _; omega)) ?_
  rintro v47 w6 ⟨bc, rfl, hbc, c6⟩
  have hz6 := c6.size
  refine L_as (v := .bool _) (v' := .bool true) 47 rfl (congrArg Value.bool (by exact hbc.2 ((chk_iff _).2 (aw1_chk _)))) (L_r (r_pt rfl rfl) (L_r (r_ab rfl) (L_nil (W_ret ?_))))
  refine ret1 (v := .bool _) rfl rfl ?_
  exact ⟨rfl, Ch.au⟩
structure fewD (d : Dd) : Prop where
  args : d.args.length ≤ 20
  met : d.method.size ≤ 100
  cls : d.cls.size ≤ 100
  byt : d.bytes.size ≤ 300
  knd : d.kind.size ≤ 100
theorem fewD_iff (d : Dd) : fewD d ↔ (d.args.length ≤ 20 ∧ d.method.size ≤ 100 ∧ d.cls.size ≤ 100 ∧ d.bytes.size ≤ 300 ∧ d.kind.size ≤ 100) := ⟨fun h => ⟨h.args, h.met, h.cls, h.byt, h.knd⟩, fun ⟨a, b, c, d, e⟩ => ⟨a, b, c, d, e⟩⟩
instance (d : Dd) : Decidable (fewD d) := decidable_of_iff' _ (fewD_iff d)
set_option maxHeartbeats 2000000 in
theorem few20_walk (v : Value) (l : List DD) (w0 : World) (hv : Sl w0 v 10 l.length (cellsDD l)) (hl : l.length ≤ 140737488351232) (hx : ∀ x ∈ l, dGood 140737488351232 w0 x) : Does Tryz.prog 8 #[v] w0 (fun r w' => ∃ b : Bool, r = .bool b ∧ (b = true → l.length ≤ 100 ∧ ∀ x ∈ l, fewD x.d) ∧ Nw w0 w') := by
  refine fn_of (n := 56) (args := [v]) Tryz.func8 rfl rfl rfl (W_seq (W_region (L_r (r_ab rfl) (L_nil (W_seq (W_seq (W_region (L_r (r_mv) ?_))))))))
  refine L_r (r_lenSl Tryz.underlying22 (by conv => lhs; whnf) Sl.au) (L_r (r_gtr rfl rfl) (L_nil ?_))
  refine W_if rfl (fun h6 => ?_) (fun h6 => ?_)
  ·
   refine W_seq (W_region (L_r (r_ab rfl) (L_nil (W_ret ?_))))
   refine ret1 (v := .bool _) rfl rfl ?_
   first
   | exact ⟨false, rfl, fun h => Bool.noConfusion h, Ch.au⟩
   | (refine ⟨true, rfl, fun _ => ⟨by omega, fun x hx => ?_⟩, Ch.au⟩
      obtain ⟨j, hj, rfl⟩ := List.getElem_of_mem hx
      exact hall j hj (by omega))
  ·
   refine W_skip (W_seq (W_seq (W_region (L_r (r_ai rfl) (L_nil (W_block ?_))))))
   refine W_loopF [0] (fun mz_ f W => ∃ (i : Nat), f 3 = .int .i64 i ∧ (i ≤ l.length ∧ (∀ j (h : j < l.length), j < i → fewD l[j].d) ∧ Nw w0 W) ∧ mz_ = l.length - i) ?_ ?_
   ·
    refine ⟨_, 0, rfl, ?_, rfl⟩
    exact ⟨by omega, fun j h hj => absurd hj (by omega), Ch.au⟩
   rintro m0 g0 w1 ⟨i, hf3, hR0, rfl⟩
   refine W_as 3 hf3 rfl ?_
   clear hf3
   obtain ⟨hi, hall, hnw⟩ := hR0
   have hz := hnw.size
   refine W_seq (W_seq (W_region (L_r (r_mi rfl) (L_r (r_mv) ?_))))
   refine L_r (r_lenSl Tryz.underlying22 (by conv => lhs; whnf) Sl.au) (L_r (r_lss rfl rfl) (L_nil ?_))
   refine W_if rfl (fun h10 => ?_) (fun h10 => ?_)
   ·
    have hil : i < l.length := by omega
    have hrow := cellsDD_row l i hil
    have hmem := List.getElem_mem hil
    obtain ⟨x, hxe⟩ : ∃ x, x = l[i] := ⟨_, rfl⟩
    rw [← hxe] at hrow hmem
    have hax := hx x hmem
    have hok : Sl w0 x.va 4 x.d.args.length (cellsVa x.d.args) := hax.ok
    refine W_skip (W_seq (W_block ?_))
    refine W_cutF [0, 3] (fun f W => f 55 = .bool (decide (¬ fewD x.d)) ∧ (Nw w0 W)) ?_ ?_
    ·
     refine W_region (L_r (r_mv) (L_r (r_mi rfl) ?_))
     refine L_r (r_ix Tryz.underlying22 (show _ = some 10 from rfl) (by conv => lhs; whnf) rfl Sl.au) ?_
     refine L_r (r_fieldSl Tryz.underlying29 rfl (show _ = some 1 from rfl) rfl (show _ = 4 from rfl) rfl rfl) ?_
     refine L_r (r_loadSl rfl rfl Sl.au (by first | exact hrow 4 _ rfl | exact hrow 3 _ rfl | exact hrow 8 _ rfl | exact hrow 9 _ rfl | exact hrow 0 _ rfl)) ?_
     refine L_r (r_lenSl Tryz.underlying27 (by conv => lhs; whnf) Sl.au) (L_r (r_gtr rfl rfl) (L_r (r_mb rfl) ?_))
     refine L_case (d := 20) rfl (fun h20 => ?_) (fun h20 => ?_)
     ·
      refine L_ps (L_ps (L_ps (L_ps (L_ps (L_ps (L_ps (L_r (r_pt rfl rfl) (L_r (r_mb rfl) ?_))))))))
      refine L_ps (L_ps (L_ps (L_ps (L_ps (L_ps (L_ps (L_r (r_pt rfl rfl) (L_r (r_mb rfl) ?_))))))))
      refine L_ps (L_ps (L_ps (L_ps (L_ps (L_ps (L_ps (L_r (r_pt rfl rfl) (L_r (r_mb rfl) ?_))))))))
      refine L_ps (L_ps (L_ps (L_ps (L_ps (L_ps (L_ps (L_r (r_pt rfl rfl) (L_nil ?_))))))))
      refine ⟨⟨fx2, fx2, trivial⟩, (dec_t (by rw [fewD_iff]; omega)), ?_⟩
      exact Ch.au
     ·
      refine L_g (r_mv) ?_
      refine L_g (r_mi rfl) ?_
      refine L_g (r_ix Tryz.underlying22 (show _ = some 10 from rfl) (by conv => lhs; whnf) rfl Sl.au) ?_
      refine L_g (r_fieldSl Tryz.underlying29 rfl (show _ = some 1 from rfl) rfl (show _ = 3 from rfl) rfl rfl) ?_
      refine L_g (r_loadSl rfl rfl Sl.au (by first | exact hrow 4 _ rfl | exact hrow 3 _ rfl | exact hrow 8 _ rfl | exact hrow 9 _ rfl | exact hrow 0 _ rfl)) ?_
      refine L_g (r_lens Tryz.underlying9 rfl) ?_
      refine L_g (r_gtr rfl rfl) (L_r (r_pf rfl rfl) (L_r (r_mb rfl) ?_))
      refine L_case (d := 29) rfl (fun h29 => ?_) (fun h29 => ?_)
      ·
       refine L_ps (L_ps (L_ps (L_ps (L_ps (L_ps (L_ps (L_r (r_pt rfl rfl) (L_r (r_mb rfl) ?_))))))))
       refine L_ps (L_ps (L_ps (L_ps (L_ps (L_ps (L_ps (L_r (r_pt rfl rfl) (L_r (r_mb rfl) ?_))))))))
       refine L_ps (L_ps (L_ps (L_ps (L_ps (L_ps (L_ps (L_r (r_pt rfl rfl) (L_nil ?_))))))))
       refine ⟨⟨fx2, fx2, trivial⟩, (dec_t (by rw [fewD_iff]; omega)), ?_⟩
       exact Ch.au
      ·
       refine L_g (r_mv) ?_
       refine L_g (r_mi rfl) ?_
       refine L_g (r_ix Tryz.underlying22 (show _ = some 10 from rfl) (by conv => lhs; whnf) rfl Sl.au) ?_
       refine L_g (r_fieldSl Tryz.underlying29 rfl (show _ = some 1 from rfl) rfl (show _ = 8 from rfl) rfl rfl) ?_
       refine L_g (r_loadSl rfl rfl Sl.au (by first | exact hrow 4 _ rfl | exact hrow 3 _ rfl | exact hrow 8 _ rfl | exact hrow 9 _ rfl | exact hrow 0 _ rfl)) ?_
       refine L_g (r_lens Tryz.underlying9 rfl) ?_
       refine L_g (r_gtr rfl rfl) (L_r (r_pf rfl rfl) (L_r (r_mb rfl) ?_))
       refine L_case (d := 38) rfl (fun h38 => ?_) (fun h38 => ?_)
       ·
        refine L_ps (L_ps (L_ps (L_ps (L_ps (L_ps (L_ps (L_r (r_pt rfl rfl) (L_r (r_mb rfl) ?_))))))))
        refine L_ps (L_ps (L_ps (L_ps (L_ps (L_ps (L_ps (L_r (r_pt rfl rfl) (L_nil ?_))))))))
        refine ⟨⟨fx2, fx2, trivial⟩, (dec_t (by rw [fewD_iff]; omega)), ?_⟩
        exact Ch.au
       ·
        refine L_g (r_mv) ?_
        refine L_g (r_mi rfl) ?_
        refine L_g (r_ix Tryz.underlying22 (show _ = some 10 from rfl) (by conv => lhs; whnf) rfl Sl.au) ?_
        refine L_g (r_fieldSl Tryz.underlying29 rfl (show _ = some 1 from rfl) rfl (show _ = 9 from rfl) rfl rfl) ?_
        refine L_g (r_loadSl rfl rfl Sl.au (by first | exact hrow 4 _ rfl | exact hrow 3 _ rfl | exact hrow 8 _ rfl | exact hrow 9 _ rfl | exact hrow 0 _ rfl)) ?_
        refine L_g (r_lens Tryz.underlying9 rfl) ?_
        refine L_g (r_gtr rfl rfl) (L_r (r_pf rfl rfl) (L_r (r_mb rfl) ?_))
        refine L_case (d := 47) rfl (fun h47 => ?_) (fun h47 => ?_)
        ·
         refine L_ps (L_ps (L_ps (L_ps (L_ps (L_ps (L_ps (L_r (r_pt rfl rfl) (L_nil ?_))))))))
         refine ⟨⟨fx2, fx2, trivial⟩, (dec_t (by rw [fewD_iff]; omega)), ?_⟩
         exact Ch.au
        ·
         refine L_g (r_mv) ?_
         refine L_g (r_mi rfl) ?_
         refine L_g (r_ix Tryz.underlying22 (show _ = some 10 from rfl) (by conv => lhs; whnf) rfl Sl.au) ?_
         refine L_g (r_fieldSl Tryz.underlying29 rfl (show _ = some 1 from rfl) rfl (show _ = 0 from rfl) (Nat.add_zero _) rfl) ?_
         refine L_g (r_loadSl rfl rfl Sl.au (by first | exact hrow 4 _ rfl | exact hrow 3 _ rfl | exact hrow 8 _ rfl | exact hrow 9 _ rfl | exact hrow 0 _ rfl)) ?_
         refine L_g (r_lens Tryz.underlying9 rfl) ?_
         refine L_g (r_gtr rfl rfl) (L_r (r_pf rfl rfl) (L_nil ?_))
         refine ⟨⟨fx2, fx2, trivial⟩, (dec_i (by rw [fewD_iff]; omega)), ?_⟩
         exact Ch.au
    rintro gcr6 w2 ⟨hf55, hCr6⟩
    refine W_as 55 hf55 rfl ?_
    clear hf55
    have hz6 := hCr6.size
    refine W_if rfl (fun h55 => ?_) (fun h55 => ?_)
    ·
     refine W_seq (W_region (L_r (r_ab rfl) (L_nil (W_ret ?_))))
     refine ret1 (v := .bool _) rfl rfl ?_
     first
     | exact ⟨false, rfl, fun h => Bool.noConfusion h, Ch.au⟩
     | (refine ⟨true, rfl, fun _ => ⟨by omega, fun x hx => ?_⟩, Ch.au⟩
        obtain ⟨j, hj, rfl⟩ := List.getElem_of_mem hx
        exact hall j hj (by omega))
    ·
     refine W_skip (W_region (L_r (r_mi rfl) ?_))
     refine L_r (r_add rfl rfl (by first | exact wr_i64 (by omega) | rfl)) (L_r (r_ai rfl) (L_nil ?_))
     refine ⟨⟨fx2, trivial⟩, _, ?_, i + 1, rfl, ?_, rfl⟩
     · omega
     refine ⟨by omega, fun j h hj => ?_, Ch.au⟩
     rcases Nat.lt_or_ge j i with k | k
     · exact hall j h k
     ·
      have e : j = i := by omega
      subst e
      rw [← hxe]; exact Classical.not_not.1 h55
   ·
    refine W_exit ?_
    repeat (first | refine blk_hit ?_ | refine blk_miss rfl ?_)
    refine W_seq (W_region (L_r (r_ab rfl) (L_nil (W_ret ?_))))
    refine ret1 (v := .bool _) rfl rfl ?_
    first
    | exact ⟨false, rfl, fun h => Bool.noConfusion h, Ch.au⟩
    | (refine ⟨true, rfl, fun _ => ⟨by omega, fun x hx => ?_⟩, Ch.au⟩
       obtain ⟨j, hj, rfl⟩ := List.getElem_of_mem hx
       exact hall j hj (by omega))
end Go.Proofs.YtgmeojpekdekeaaGreatDoor

namespace Go.Proofs.YtgmeojpekdekeaaGreatDoor
open Go Go.RowKit
set_option linter.unusedVariables false
set_option linter.unusedSimpArgs false
set_option maxRecDepth 100000
def wN (c : UInt8) : Nat := if c = 97 then 8 else 1
theorem letB_w {d : Dd} (h : chkD d) (c : UInt8) : (letB d c).length ≤ wN c := by
  have hl := h.len
  unfold letB wN
  by_cases e : c = 97
  · subst e; simpa using hl
  ·
   rw [if_neg e]
   repeat' split
   all_goals first | exact Nat.le_refl _ | (exfalso; contradiction) | (simp; done)
theorem flat_w {d : Dd} (h : chkD d) : ∀ cs : List UInt8, (cs.flatMap (letB d)).length ≤ (cs.map wN).sum
  | [] => Nat.le_refl _
  | c :: cs => by
    have h1 := letB_w h c
    have h2 := flat_w h cs
    simp only [List.flatMap_cons, List.length_append, List.map_cons, List.sum_cons]
    omega
theorem wN_ent : ∀ e ∈ entT, ((bs e.2).map wN).sum ≤ 11 := by decide
theorem bodB_len2 {d : Dd} (h : chkD d) (hr : ranD d) : (bodB d).length ≤ 3318 := by
  have h1 := kind_7 h
  have h2 : (parB d).length ≤ 11 := by
    have h3 := flat_w h (bs (hasF d.kind))
    have h4 : ((bs (hasF d.kind)).map wN).sum ≤ 11 := by
      unfold hasF hasO
      cases hf : entT.find? fun e => decide (e.1 = d.kind) with
      | none => decide
      | some e => exact wN_ent e (List.mem_of_find?_eq_some hf)
    unfold parB; omega
  have h3 := jt_len (l := parB d) 11 h2 (fun x hx => parB_300 h hr x (List.mem_cons_of_mem _ hx))
  rw [bodB_eq, List.length_append, bs_length]
  omega
theorem shwB_len2 : ∀ l : List DD, (∀ x ∈ l, chkD x.d ∧ ranD x.d) → (shwB l).length ≤ l.length * 3319
  | [], _ => by simp [shwB]
  | x :: l, h => by
    have h1 := bodB_len2 (h x List.mem_cons_self).1 (h x List.mem_cons_self).2
    have h2 := shwB_len2 l fun y hy => h y (List.mem_cons_of_mem _ hy)
    rw [shwB_cons, List.length_append, List.length_cons, Nat.succ_mul]
    unfold linD
    rw [List.length_append, List.length_singleton]
    omega
/-- Deeds that are handed in. -/
abbrev lGood (W : World) (v : Value) (l : List DD) : Prop := Sl W v 10 l.length (cellsDD l) ∧ (∀ x ∈ l, dGood 140737488351232 W x) ∧ l.length ≤ 140737488351232
set_option maxHeartbeats 4000000 in
theorem ScriptShows_walk (v : Value) (l : List DD) (w0 : World) (hz : lGood w0 v l) (hL : Sv w0.heap.size w0) : Does Tryz.prog 3 #[v] w0 (fun r w' => r = .bool true ∧ Nw w0 w') := by
  obtain ⟨hv, hx, hl⟩ := hz
  refine fn_of (n := 82) (args := [v]) Tryz.func3 rfl rfl rfl (W_seq (W_region (L_r (r_ab rfl) (L_nil (W_seq (W_seq (W_region (L_r (r_mv) ?_))))))))
  refine L_call (.plain rfl) rfl rfl (r_call Tryz.func8 rfl rfl rfl (by rfl)) (few20_walk v l _ Sl.au hl (fun x h => (hx x h).nw Ch.au)) ?_
  rintro v12 w1 ⟨b, rfl, hfew, c1⟩
  have hz1 := c1.size
  refine L_r (r_not rfl) (L_nil ?_)
  refine W_bool rfl (fun h13 => ?_) (fun h13 => ?_)
  ·
   refine W_seq (W_region ?_)
   refine L_call (.plain rfl) rfl rfl (r_call Tryz.func9 rfl rfl rfl (by rfl)) (awake_walk w0.heap.size _ (hL.nw Ch.au (by omega)) (by omega)) ?_
   rintro v14 w2 ⟨rfl, c2⟩
   have hz2 := c2.size
   refine L_r (r_ab rfl) (L_nil (W_ret ?_))
   refine ret1 (v := .bool _) rfl rfl ?_
   exact ⟨rfl, Ch.au⟩
  ·
   obtain ⟨hl1, hfd⟩ := hfew (by simpa using h13)
   refine W_skip (W_seq (W_seq (W_region (L_r (r_ai rfl) (L_nil (W_block ?_))))))
   refine W_loopF [0] (fun mz_ f W => ∃ (i : Nat), f 3 = .int .i64 i ∧ (i ≤ l.length ∧ Nw w0 W) ∧ mz_ = l.length - i) ?_ ?_
   ·
    refine ⟨_, 0, rfl, ?_, rfl⟩
    exact ⟨by omega, Ch.au⟩
   rintro m0 g0 w3 ⟨i, hf3, hR0, rfl⟩
   refine W_as 3 hf3 rfl ?_
   clear hf3
   obtain ⟨hi, hnw⟩ := hR0
   have hzz := hnw.size
   refine W_seq (W_seq (W_region (L_r (r_mi rfl) (L_r (r_mv) ?_))))
   refine L_r (r_lenSl Tryz.underlying22 (by conv => lhs; whnf) Sl.au) (L_r (r_lss rfl rfl) (L_nil ?_))
   refine W_if rfl (fun h18 => ?_) (fun h18 => ?_)
   ·
    have hil : i < l.length := by omega
    have hrow := cellsDD_row l i hil
    have hmem := List.getElem_mem hil
    obtain ⟨x, hxe⟩ : ∃ x, x = l[i] := ⟨_, rfl⟩
    rw [← hxe] at hrow hmem
    have hax := hx x hmem
    have haq := hax.askR
    refine W_skip (W_seq (W_block (W_seq ?_)))
    refine W_draw (fun W => Sl W v 10 l.length (cellsDD l)) 11 (m := 11) (by kernel_rfl) rfl (fun w4 c4 hs4 => ?_)
    refine held Sl.au (fun hS => ?_)
    refine D_t 0 rfl (fun W hW => r_mv) ?_
    refine D_t 1 rfl (fun W hW => r_mi rfl) ?_
    refine D_t 2 rfl (fun W hW => r_ix Tryz.underlying22 (show _ = some 10 from rfl) (by conv => lhs; whnf) rfl (by exact hW)) ?_
    refine D_t 3 rfl (fun W hW => r_loadSlrow (us := [.string x.d.kind, .int .i64 x.d.side, .int .u64 (x.d.obj : Int), .string x.d.method, x.va, .int .i64 x.d.n, .int .i64 x.d.at', .int .i64 x.d.ref, .string x.d.cls, .string x.d.bytes]) Tryz.underlying29 rfl rfl rfl rfl (by exact hW) (by exact hrow)) ?_
    refine D_t 5 rfl (fun W hW => r_mv) ?_
    refine D_t 6 rfl (fun W hW => r_mi rfl) ?_
    refine D_t 7 rfl (fun W hW => r_ix Tryz.underlying22 (show _ = some 10 from rfl) (by conv => lhs; whnf) rfl (by exact hW)) ?_
    refine D_t 8 rfl (fun W hW => r_loadSlrow (us := [.string x.d.kind, .int .i64 x.d.side, .int .u64 (x.d.obj : Int), .string x.d.method, x.va, .int .i64 x.d.n, .int .i64 x.d.at', .int .i64 x.d.ref, .string x.d.cls, .string x.d.bytes]) Tryz.underlying29 rfl rfl rfl rfl (by exact hW) (by exact hrow)) ?_
    refine D_ev 4 (by kernel_rfl) rfl ?_
    refine L_call (.plain rfl) rfl rfl (r_call Tryz.func10 rfl rfl rfl (by rfl)) (scheck_walk w0.heap.size x _ (hL.nw Ch.au (by omega)) (by omega) (hax.ok.nw Ch.au) haq.len) ?_
    rintro v25 w5 ⟨bc, rfl, hbc, c5⟩
    have hz5 := c5.size
    rw [chk_iff] at hbc
    refine L_nil ?_
    refine heldK Sl.au (fun hS => ?_)
    refine D_ev 9 (by kernel_rfl) rfl ?_
    refine L_call (.plain rfl) rfl rfl (r_call Tryz.func11 rfl rfl rfl (by rfl)) (rcheck_walk x _ (hax.ok.nw Ch.au) haq.len haq.met haq.cls) ?_
    rintro v30 w6 ⟨bd, rfl, hbd, c6⟩
    have hz6 := c6.size
    refine L_nil ?_
    refine heldK Sl.au (fun hS => ?_)
    refine D_t 10 rfl (fun W hW => r_neqb Tryz.underlying4 rfl rfl) ?_
    refine D_as (v := .bool _) (v' := .bool false) 31 rfl (dec_f (by have e : bc = bd := Bool.eq_iff_iff.2 (hbc.trans hbd.symm); subst e; simp)).symm ?_
    refine D_done (by kernel_rfl) ?_
    refine W_false rfl (W_skip (W_region (L_r (r_mi rfl) ?_)))
    refine L_r (r_add rfl rfl (by first | exact wr_i64 (by omega) | rfl)) (L_r (r_ai rfl) (L_nil ?_))
    refine ⟨⟨fx2, trivial⟩, _, ?_, i + 1, rfl, ?_, rfl⟩
    · omega
    exact ⟨by omega, Ch.au⟩
   ·
    refine W_exit ?_
    repeat (first | refine blk_hit ?_ | refine blk_miss rfl ?_)
    refine W_seq (W_region (L_r (r_mv) ?_))
    refine L_call (.plain rfl) rfl rfl (r_call Tryz.func12 rfl rfl rfl (by rfl)) (sshow_any w0.heap.size v l _ Sl.au (by omega) (fun x h => (hx x h).askD.nw Ch.au) (hL.nw Ch.au (by omega)) (by omega)) ?_
    rintro v34 w7 ⟨s, e, rfl, hs0, hs1, c7⟩
    have hz7 := c7.size
    refine L_r (r_mv) (L_r (r_ext2_0 rfl) (L_r (r_ext2_1 rfl) (L_r (r_as rfl) (L_r (r_ai rfl) (L_nil (W_seq (W_region (L_r (r_mv) ?_))))))))
    refine L_call (.plain rfl) rfl rfl (r_call Tryz.func13 rfl rfl rfl (by rfl)) (rshow_any v l _ Sl.au (by omega) (fun x h => (hx x h).askR.nw Ch.au)) ?_
    rintro v39 w8 ⟨s2, b2, rfl, hb2, hs2, c8⟩
    have hz8 := c8.size
    refine L_r (r_mv) (L_r (r_ext2_0 rfl) (L_r (r_ext2_1 rfl) (L_r (r_as rfl) (L_r (r_ab rfl) (L_nil (W_seq (W_seq (W_region ?_))))))))
    refine L_r (r_mb rfl) (L_r (r_not rfl) (L_nil ?_))
    refine W_bool rfl (fun h43 => ?_) (fun h43 => ?_)
    ·
     have hno : ¬ ∀ x ∈ l, chkD x.d := fun h => by have := hb2.2 h; simp [this] at h43
     obtain ⟨rfl, rfl⟩ := hs1 hno
     refine W_seq (W_region ?_)
     refine L_call (.plain rfl) rfl rfl (r_call Tryz.func9 rfl rfl rfl (by rfl)) (awake_walk w0.heap.size _ (hL.nw Ch.au (by omega)) (by omega)) ?_
     rintro v44 w9 ⟨rfl, c9⟩
     have hz9 := c9.size
     refine L_as (v := .bool _) (v' := .bool true) 44 rfl (congrArg Value.bool (by rfl)) (L_r (r_mb rfl) ?_)
     refine L_g (r_ms rfl) ?_
     refine L_g (r_eqls rfl rfl) ?_
     refine L_as (v := .bool _) (v' := .bool true) 47 rfl (dec_t (by rfl)).symm (L_r (r_pt rfl rfl) (L_r (r_mb rfl) ?_))
     refine L_g (r_mi rfl) ?_
     refine L_g (r_eql rfl rfl) ?_
     refine L_as (v := .bool _) (v' := .bool true) 51 rfl (dec_t (by rfl)).symm (L_r (r_pt rfl rfl) (L_r (r_ab rfl) (L_nil (W_ret ?_))))
     refine ret1 (v := .bool _) rfl rfl ?_
     exact ⟨rfl, Ch.au⟩
    ·
     have hall : ∀ x ∈ l, chkD x.d := hb2.1 (by simpa using h43)
     obtain ⟨rfl, rfl⟩ := hs0 hall
     have hs3 := hs2 hall
     subst hs3
     have hac : allC l := fun x h => ⟨hall x h, (hx x h).ran⟩
     have hln := shwB_len2 l hac
     refine W_skip (W_seq (W_region (L_r (r_ms rfl) ?_)))
     refine L_call (.plain rfl) rfl rfl (r_call Tryz.func14 rfl rfl rfl (by rfl)) (sread_ok w0.heap.size (sb (shwB l)) l _ (by rw [sb_size]; omega) (hL.nw Ch.au (by omega)) (by omega) hac (bs_sb _)) ?_
     rintro v55 w10 ⟨k, v55, rfl, hk, hka, hko, hkl, c10⟩
     have hz10 := c10.size
     have hkn := congrArg List.length hk
     rw [List.length_map, List.length_map] at hkn
     refine L_r (r_mv) (L_r (r_ext3_0 rfl) (L_r (r_ext3_1 rfl) (L_r (r_ext3_2 rfl) (L_r (r_av) (L_r (r_ai rfl) (L_r (r_ai rfl) (L_nil (W_seq ?_))))))))
     refine W_region ?_
     refine L_call (.plain rfl) rfl rfl (r_call Tryz.func9 rfl rfl rfl (by rfl)) (awake_walk w0.heap.size _ (hL.nw Ch.au (by omega)) (by omega)) ?_
     rintro v59 w11 ⟨rfl, c11⟩
     have hz11 := c11.size
     refine L_as (v := .bool _) (v' := .bool true) 59 rfl (congrArg Value.bool (by rfl)) (L_r (r_mb rfl) ?_)
     refine L_g (r_ms rfl) ?_
     refine L_g (r_ms rfl) ?_
     refine L_g (r_eqls rfl rfl) ?_
     refine L_as (v := .bool _) (v' := .bool true) 63 rfl (dec_t (by rfl)).symm (L_r (r_pt rfl rfl) (L_r (r_mb rfl) ?_))
     refine L_g (r_mi rfl) ?_
     refine L_g (r_eql rfl rfl) ?_
     refine L_as (v := .bool _) (v' := .bool true) 67 rfl (dec_t (by rfl)).symm (L_r (r_pt rfl rfl) (L_r (r_mb rfl) ?_))
     refine L_g (r_mv) ?_
     refine L_g (r_mv) ?_
     refine L_call (.yes 10 true rfl rfl) rfl rfl (r_call Tryz.func15 rfl rfl rfl (by rfl)) (rsame_walk v v55 l k _ Sl.au Sl.au (by omega) (by omega) (fun x h => ⟨(hx x h).ok.nw Ch.au, (hx x h).askR.len⟩) (fun x h => ⟨(hkl x h).sl.nw Ch.au, by have := (hka x h).1.len; omega⟩)) ?_
     rintro v72 w12 ⟨bsm, rfl, hbsm, c12⟩
     have hz12 := c12.size
     refine L_as (v := .bool _) (v' := .bool true) 72 rfl (congrArg Value.bool (by exact hbsm.2 hk.symm)) (L_r (r_pt rfl rfl) (L_r (r_mb rfl) ?_))
     refine L_g (r_mi rfl) ?_
     refine L_g (r_eql rfl rfl) ?_
     refine L_as (v := .bool _) (v' := .bool true) 76 rfl (dec_t (by rfl)).symm (L_r (r_pt rfl rfl) (L_r (r_mb rfl) ?_))
     refine L_g (r_mi rfl) ?_
     refine L_g (r_eql rfl rfl) ?_
     refine L_as (v := .bool _) (v' := .bool true) 80 rfl (dec_t (by rfl)).symm (L_r (r_pt rfl rfl) (L_r (r_ab rfl) (L_nil (W_ret ?_))))
     refine ret1 (v := .bool _) rfl rfl ?_
     exact ⟨rfl, Ch.au⟩
theorem gt_ok {g : Gt} (h : gGood 140737488351232 g) (h1 : g.body.size ≤ 300) (h2 : g.v.s.size ≤ 300) : gtP g := ⟨h.1, h.2.1, h1, h2, h.2.2.2.1.1, h.2.2.2.1.2.2, h.2.2.2.2⟩
set_option maxHeartbeats 2000000 in
theorem ScriptReports_walk (side : Int) (v : Value) (z : List Gt) (w0 : World) (hside : -9223372036854775808 ≤ side ∧ side ≤ 9223372036854775807) (hz : Sl w0 v 8 z.length (cellsGt z) ∧ (∀ x ∈ z, gGood 140737488351232 x) ∧ z.length ≤ 140737488351232) (hL : Sv w0.heap.size w0) : Does Tryz.prog 7 #[.int .i64 side, v] w0 (fun r w' => r = .bool true ∧ Nw w0 w') := by
  obtain ⟨hv, hx, hl⟩ := hz
  refine fn_of (n := 44) (args := [.int .i64 side, v]) Tryz.func7 rfl rfl rfl (W_seq (W_region (L_r (r_ab rfl) (L_nil (W_seq (W_seq (W_region (L_r (r_mv) ?_))))))))
  refine L_r (r_lenSl Tryz.underlying41 (by conv => lhs; whnf) Sl.au) (L_r (r_gtr rfl rfl) (L_nil ?_))
  refine W_if rfl (fun h8 => ?_) (fun h8 => ?_)
  ·
   refine W_seq (W_region ?_)
   refine L_call (.plain rfl) rfl rfl (r_call Tryz.func9 rfl rfl rfl (by rfl)) (awake_walk w0.heap.size _ (hL.nw Ch.au (by omega)) (by omega)) ?_
   rintro v9 w1 ⟨rfl, c1⟩
   have hz1 := c1.size
   refine L_r (r_ab rfl) (L_nil (W_ret ?_))
   refine ret1 (v := .bool _) rfl rfl ?_
   exact ⟨rfl, Ch.au⟩
  ·
   refine W_skip (W_seq (W_seq (W_region (L_r (r_ai rfl) (L_nil (W_block ?_))))))
   refine W_loopF [0, 1] (fun mz_ f W => ∃ (i : Nat), f 5 = .int .i64 i ∧ (i ≤ z.length ∧ (∀ j (h : j < z.length), j < i → gtP z[j]) ∧ Nw w0 W) ∧ mz_ = z.length - i) ?_ ?_
   ·
    refine ⟨_, 0, rfl, ?_, rfl⟩
    exact ⟨by omega, fun j h hj => absurd hj (by omega), Ch.au⟩
   rintro m0 g0 w2 ⟨i, hf5, hR0, rfl⟩
   refine W_as 5 hf5 rfl ?_
   clear hf5
   obtain ⟨hi, hall, hnw⟩ := hR0
   have hzz := hnw.size
   refine W_seq (W_seq (W_region (L_r (r_mi rfl) (L_r (r_mv) ?_))))
   refine L_r (r_lenSl Tryz.underlying41 (by conv => lhs; whnf) Sl.au) (L_r (r_lss rfl rfl) (L_nil ?_))
   refine W_if rfl (fun h13 => ?_) (fun h13 => ?_)
   ·
    have hil : i < z.length := by omega
    have hrow := cellsGt_row z i hil
    have hmem := List.getElem_mem hil
    obtain ⟨x, hxe⟩ : ∃ x, x = z[i] := ⟨_, rfl⟩
    rw [← hxe] at hrow hmem
    have hax := hx x hmem
    refine W_skip (W_seq (W_block (W_seq (W_region (L_r (r_mv) (L_r (r_mi rfl) ?_))))))
    refine L_r (r_ix Tryz.underlying41 (show _ = some 8 from rfl) (by conv => lhs; whnf) rfl Sl.au) ?_
    refine L_r (r_fieldSl Tryz.underlying45 rfl (show _ = some 1 from rfl) rfl (show _ = 7 from rfl) rfl rfl) ?_
    refine L_r (r_loadSl rfl rfl Sl.au (by first | exact hrow 7 _ rfl | exact hrow 5 _ rfl)) ?_
    refine L_r (r_lens Tryz.underlying9 rfl) (L_r (r_gtr rfl rfl) (L_r (r_mb rfl) ?_))
    refine L_case (d := 23) rfl (fun h23 => ?_) (fun h23 => ?_)
    ·
     refine L_ps (L_ps (L_ps (L_ps (L_ps (L_ps (L_ps (L_ps (L_r (r_pt rfl rfl) ?_))))))))
     refine L_nil ?_
     refine W_true rfl (W_seq (W_region ?_))
     refine L_call (.plain rfl) rfl rfl (r_call Tryz.func9 rfl rfl rfl (by rfl)) (awake_walk w0.heap.size _ (hL.nw Ch.au (by omega)) (by omega)) ?_
     rintro v33 w3 ⟨rfl, c3⟩
     have hz3 := c3.size
     refine L_r (r_ab rfl) (L_nil (W_ret ?_))
     refine ret1 (v := .bool _) rfl rfl ?_
     exact ⟨rfl, Ch.au⟩
    ·
     refine L_g (r_mv) ?_
     refine L_g (r_mi rfl) ?_
     refine L_g (r_ix Tryz.underlying41 (show _ = some 8 from rfl) (by conv => lhs; whnf) rfl Sl.au) ?_
     refine L_g (r_fieldSl Tryz.underlying45 rfl (show _ = some 4 from rfl) rfl (show _ = 3 from rfl) rfl rfl) ?_
     refine L_g (r_fieldSl Tryz.underlying43 rfl (show _ = some 1 from rfl) rfl (show _ = 2 from rfl) rfl rfl) ?_
     refine L_g (r_loadSl rfl rfl Sl.au (by first | exact hrow 7 _ rfl | exact hrow 5 _ rfl)) ?_
     refine L_g (r_lens Tryz.underlying9 rfl) ?_
     refine L_g (r_gtr rfl rfl) (L_r (r_pf rfl rfl) (L_nil ?_))
     refine W_if rfl (fun h32 => ?_) (fun h32 => ?_)
     ·
      refine W_seq (W_region ?_)
      refine L_call (.plain rfl) rfl rfl (r_call Tryz.func9 rfl rfl rfl (by rfl)) (awake_walk w0.heap.size _ (hL.nw Ch.au (by omega)) (by omega)) ?_
      rintro v33 w4 ⟨rfl, c4⟩
      have hz4 := c4.size
      refine L_r (r_ab rfl) (L_nil (W_ret ?_))
      refine ret1 (v := .bool _) rfl rfl ?_
      exact ⟨rfl, Ch.au⟩
     ·
      refine W_skip (W_region (L_r (r_mi rfl) ?_))
      refine L_r (r_add rfl rfl (by first | exact wr_i64 (by omega) | rfl)) (L_r (r_ai rfl) (L_nil ?_))
      refine ⟨⟨fx2, fx2, trivial⟩, _, ?_, i + 1, rfl, ?_, rfl⟩
      · omega
      refine ⟨by omega, fun j h hj => ?_, Ch.au⟩
      rcases Nat.lt_or_ge j i with k | k
      · exact hall j h k
      ·
       have e : j = i := by omega
       subst e
       rw [← hxe]; exact gt_ok hax (by omega) (by omega)
   ·
    have hgt : ∀ g ∈ z, gtP g := by
      intro g hg
      obtain ⟨j, hj, rfl⟩ := List.getElem_of_mem hg
      exact hall j hj (by omega)
    refine W_exit ?_
    repeat (first | refine blk_hit ?_ | refine blk_miss rfl ?_)
    refine W_seq (W_region ?_)
    refine L_call (.plain rfl) rfl rfl (r_call Tryz.func9 rfl rfl rfl (by rfl)) (awake_walk w0.heap.size _ (hL.nw Ch.au (by omega)) (by omega)) ?_
    rintro v34 w5 ⟨rfl, c5⟩
    have hz5 := c5.size
    refine L_as (v := .bool _) (v' := .bool true) 34 rfl (congrArg Value.bool (by rfl)) (L_r (r_mb rfl) ?_)
    refine L_g (r_mi rfl) ?_
    refine L_g (r_mv) ?_
    refine L_call (.yes 1 true rfl rfl) rfl rfl (r_call Tryz.func16 rfl rfl rfl (by rfl)) (srep_walk w0.heap.size v side z _ Sl.au (by omega) hgt hside (hL.nw Ch.au (by omega)) (by omega)) ?_
    rintro v38 w6 ⟨rfl, c6⟩
    have hz6 := c6.size
    refine L_g (r_mi rfl) ?_
    refine L_g (r_mv) ?_
    refine L_call (.yes 1 true rfl rfl) rfl rfl (r_call Tryz.func17 rfl rfl rfl (by rfl)) (rrep_walk v side z _ Sl.au (by omega) hgt hside) ?_
    rintro v41 w7 ⟨rfl, c7⟩
    have hz7 := c7.size
    refine L_g (r_eqls rfl rfl) ?_
    refine L_as (v := .bool _) (v' := .bool true) 42 rfl (dec_t (by rfl)).symm (L_r (r_pt rfl rfl) (L_r (r_ab rfl) (L_nil (W_ret ?_))))
    refine ret1 (v := .bool _) rfl rfl ?_
    exact ⟨rfl, Ch.au⟩
end Go.Proofs.YtgmeojpekdekeaaGreatDoor

namespace Go.Proofs.YtgmeojpekdekeaaGreatDoor
open Go Go.RowKit
set_option linter.unusedVariables false
set_option linter.unusedSimpArgs false
set_option maxRecDepth 100000
theorem nl_bat (s : ByteArray) (a : Nat) (h : a < s.size) : nl ((bs s).take (a + 1)) = nl ((bs s).take a) + (if ((bat s a).toNat : Int) = 10 then 1 else 0) := by
  have hl : a < (bs s).length := h
  have e : bat s a = (bs s)[a] := by unfold bat; rw [List.getD_eq_getElem?_getD, List.getElem?_eq_getElem hl]; rfl
  rw [nl_succ _ _ hl, e]
  congr 1
  by_cases k : (bs s)[a] = 10
  · rw [if_pos k, if_pos (by rw [k]; rfl)]
  ·
   have q2 : ¬ (((bs s)[a].toNat : Int) = 10) := fun q => k (u8_of (n := 10) (by omega) q)
   rw [if_neg k, if_neg q2]
theorem chk_askR {w : World} {x : DD} (h : x.ok w) (k : chkD x.d ∧ ranD x.d) : askR w x := ⟨h, k.2, by have := k.1.len; omega, by have := meth_size k.1; omega, by have := cls_size k.1; omega⟩
theorem bs_ext0 (s : ByteArray) (n : Nat) : bs (s.extract 0 n) = (bs s).take n := by simp [bs]
set_option maxHeartbeats 4000000 in
theorem ScriptReads_walk (s : ByteArray) (w0 : World) (hz : s.size ≤ 140737488351232) (hL : Sv w0.heap.size w0) : Does Tryz.prog 4 #[.string s] w0 (fun r w' => r = .bool true ∧ Nw w0 w') := by
  have hsn : Sl w0 (.slice none 0 0) 10 0 [] := Sl.nil _ _
  have hbl := bs_length s
  refine fn_of (n := 108) (args := [.string s]) Tryz.func4 rfl rfl rfl (W_seq (W_region (L_r (r_ab rfl) (L_nil (W_seq (W_seq (W_region (L_r (r_ms rfl) ?_))))))))
  refine L_r (r_lens Tryz.underlying9 rfl) (L_r (r_gtr rfl rfl) (L_nil ?_))
  refine W_if rfl (fun h15 => ?_) (fun h15 => ?_)
  ·
   refine W_seq (W_region ?_)
   refine L_call (.plain rfl) rfl rfl (r_call Tryz.func9 rfl rfl rfl (by rfl)) (awake_walk w0.heap.size _ (hL.nw Ch.au (by omega)) (by omega)) ?_
   rintro v16 w1 ⟨rfl, c1⟩
   have hz1 := c1.size
   refine L_r (r_ab rfl) (L_nil (W_ret ?_))
   refine ret1 (v := .bool _) rfl rfl ?_
   exact ⟨rfl, Ch.au⟩
  ·
   refine W_skip (W_seq (W_region (L_r (r_ms rfl) ?_)))
   refine L_call (.plain rfl) rfl rfl (r_call Tryz.func14 rfl rfl rfl (by rfl)) (sread_any w0.heap.size s _ (by omega) (hL.nw Ch.au (by omega)) (by omega)) ?_
   rintro v19 w2 ⟨l, t, v19, n, e, rfl, hrd, c2⟩
   have hz2 := c2.size
   have hal := hrd.al
   have heq := hrd.eq
   have hor := hrd.or
   have hel := congrArg List.length heq
   rw [List.length_append] at hel
   have hge := shwB_ge l
   refine L_r (r_mv) (L_r (r_ext3_0 rfl) (L_r (r_ext3_1 rfl) (L_r (r_ext3_2 rfl) (L_r (r_av) (L_r (r_ai rfl) (L_r (r_ai rfl) (L_nil (W_seq ?_))))))))
   refine W_seq (W_region (L_r (r_mi rfl) (L_r (r_eql rfl rfl) (L_nil ?_))))
   refine W_if rfl (fun h24 => ?_) (fun h24 => ?_)
   ·
    obtain ⟨ht, hn0⟩ : t = [] ∧ n = 0 := by
      rcases hor with k | k
      · exact ⟨k.1, k.2.1⟩
      · exfalso; omega
    have how := hrd.ow h24
    have hls := hrd.ls h24
    have hchk : ∀ x ∈ l, chkD x.d := fun x h => (hal x h).1
    have hsh : sb (shwB l) = s := by rw [← sb_bs s, heq, ht, List.append_nil]
    refine W_seq (W_region (L_r (r_mv) ?_))
    refine L_call (.plain rfl) rfl rfl (r_call Tryz.func13 rfl rfl rfl (by rfl)) (rshow_any v19 l _ Sl.au (by omega) (fun x h => chk_askR ((hls x h).sl.nw Ch.au) (hal x h))) ?_
    rintro v27 w3 ⟨s2, b2, rfl, hb2, hs2, c3⟩
    have hz3 := c3.size
    refine L_r (r_mv) (L_r (r_ext2_0 rfl) (L_r (r_ext2_1 rfl) ?_))
    refine L_as (v := .bool _) (v' := .bool true) 29 rfl (congrArg Value.bool (by exact hb2.2 hchk)) (L_r (r_as rfl) (L_r (r_ab rfl) (L_nil (W_seq (W_region ?_)))))
    refine L_call (.plain rfl) rfl rfl (r_call Tryz.func9 rfl rfl rfl (by rfl)) (awake_walk w0.heap.size _ (hL.nw Ch.au (by omega)) (by omega)) ?_
    rintro v30 w4 ⟨rfl, c4⟩
    have hz4 := c4.size
    refine L_as (v := .bool _) (v' := .bool true) 30 rfl (congrArg Value.bool (by rfl)) (L_r (r_mb rfl) ?_)
    refine L_g (r_mb rfl) (L_r (r_pt rfl rfl) (L_r (r_mb rfl) ?_))
    refine L_g (r_ms rfl) ?_
    refine L_g (r_ms rfl) ?_
    refine L_g (r_eqls rfl rfl) ?_
    refine L_as (v := .bool _) (v' := .bool true) 37 rfl (dec_t (by exact (hs2 hchk).trans hsh)).symm (L_r (r_pt rfl rfl) (L_r (r_mb rfl) ?_))
    refine L_g (r_mi rfl) ?_
    refine L_g (r_eql rfl rfl) ?_
    refine L_as (v := .bool _) (v' := .bool true) 41 rfl (dec_t (by exact hn0)).symm (L_r (r_pt rfl rfl) (L_r (r_ab rfl) (L_nil (W_ret ?_))))
    refine ret1 (v := .bool _) rfl rfl ?_
    exact ⟨rfl, Ch.au⟩
   ·
    obtain ⟨hbt, hn1, he1⟩ : badT t ∧ n = (l.length : Int) + 1 ∧ e = 200 := by
      rcases hor with k | k
      · exact absurd k.2.2 h24
      · exact k
    have hv9 := hrd.nl h24
    have htl := List.length_pos_iff.2 hbt.1
    subst hv9 hn1 he1
    have hnl := nl_at hal t
    have hnk := nl_less hal t
    rw [← heq] at hnl hnk
    refine W_skip (W_seq (W_region (L_r (r_ai rfl) (L_r (r_ai rfl) (L_nil (W_seq (W_block ?_)))))))
    refine W_loopF [0, 3, 4, 5] (fun mz_ f W => ∃ (a : Nat), f 8 = .int .i64 a ∧ f 9 = .int .i64 ((1 + nl ((bs s).take a) : Nat) : Int) ∧ (a ≤ (shwB l).length ∧ Nw w0 W) ∧ mz_ = s.size - a) ?_ ?_
    ·
     refine ⟨_, 0, rfl, rfl, ?_, rfl⟩
     exact ⟨by omega, Ch.au⟩
    rintro m0 g0 w5 ⟨a, hf8, hf9, hR0, rfl⟩
    refine W_as 8 hf8 rfl ?_
    refine W_as 9 hf9 rfl ?_
    clear hf8 hf9
    obtain ⟨ha, hnw⟩ := hR0
    have hzz := hnw.size
    have hnA : nl ((bs s).take a) ≤ l.length := by
      rcases Nat.lt_or_ge a (shwB l).length with k | k
      · have := hnk a k; omega
      · rw [show a = (shwB l).length by omega]; omega
    refine W_seq (W_seq (W_region (L_r (r_mi rfl) (L_r (r_ms rfl) ?_))))
    refine L_r (r_lens Tryz.underlying9 rfl) (L_r (r_lss rfl rfl) (L_r (r_mb rfl) ?_))
    refine L_case (d := 47) rfl (fun h47 => ?_) (fun h47 => ?_)
    ·
     refine L_g (r_mi rfl) ?_
     refine L_g (r_mi rfl) ?_
     refine L_g (r_lss rfl rfl) (L_r (r_pt rfl rfl) (L_nil ?_))
     refine W_if rfl (fun h51 => ?_) (fun h51 => ?_)
     ·
      have has : a < s.size := by omega
      have hal2 : a < (shwB l).length := by
        rcases Nat.lt_or_ge a (shwB l).length with k | k
        · exact k
        ·
         exfalso
         rw [show a = (shwB l).length by omega, hnl] at h51
         omega
      refine W_skip (W_block (W_seq (W_seq (W_region (L_r (r_ms rfl) (L_r (r_mi rfl) ?_))))))
      refine L_r (r_indexs Tryz.underlying9 rfl rfl (by omega) (by omega) (by conv => lhs; (try simp only [Nat.mul_one, Nat.zero_add, Int.toNat_natCast, Int.toNat_zero, Int.reduceToNat, Nat.reduceMul, Nat.reduceAdd]))) (L_r (r_eql rfl rfl) (L_nil ?_))
      refine W_if rfl (fun h55 => ?_) (fun h55 => ?_)
      ·
       refine W_region (L_r (r_mi rfl) ?_)
       refine L_r (r_add rfl rfl (by first | exact wr_i64 (by omega) | rfl)) (L_r (r_ai rfl) (L_nil (W_region (L_r (r_mi rfl) ?_))))
       refine L_r (r_add rfl rfl (by first | exact wr_i64 (by omega) | rfl)) (L_r (r_ai rfl) (L_nil ?_))
       refine ⟨⟨fx2, fx2, fx2, fx2, trivial⟩, _, ?_, a + 1, rfl, (by first | exact congrArg (fun k : Nat => Value.int .i64 (k : Int)) (show 1 + nl ((bs s).take a) + 1 = 1 + nl ((bs s).take (a + 1)) from by rw [nl_bat s a has, if_pos h55]; omega) | exact congrArg (fun k : Nat => Value.int .i64 (k : Int)) (show 1 + nl ((bs s).take a) = 1 + nl ((bs s).take (a + 1)) from by rw [nl_bat s a has, if_neg h55, Nat.add_zero])), ?_, rfl⟩
       · omega
       exact ⟨by omega, Ch.au⟩
      ·
       refine W_skip (W_region (L_r (r_mi rfl) ?_))
       refine L_r (r_add rfl rfl (by first | exact wr_i64 (by omega) | rfl)) (L_r (r_ai rfl) (L_nil ?_))
       refine ⟨⟨fx2, fx2, fx2, fx2, trivial⟩, _, ?_, a + 1, rfl, (by first | exact congrArg (fun k : Nat => Value.int .i64 (k : Int)) (show 1 + nl ((bs s).take a) + 1 = 1 + nl ((bs s).take (a + 1)) from by rw [nl_bat s a has, if_pos h55]; omega) | exact congrArg (fun k : Nat => Value.int .i64 (k : Int)) (show 1 + nl ((bs s).take a) = 1 + nl ((bs s).take (a + 1)) from by rw [nl_bat s a has, if_neg h55, Nat.add_zero])), ?_, rfl⟩
       · omega
       exact ⟨by omega, Ch.au⟩
     ·
      have hae : a = (shwB l).length := by
        rcases Nat.lt_or_ge a (shwB l).length with k | k
        ·
         exfalso
         have := hnk a k
         omega
        · omega
      have hq : nl ((bs s).take a) = l.length := by rw [hae]; exact hnl
      have htk : bs (s.extract 0 a) = shwB l := by rw [bs_ext0, heq, hae, List.take_left]
      have hsz : (s.extract 0 a).size = (shwB l).length := by rw [← bs_length, htk]
      refine W_exit ?_
      repeat (first | refine blk_hit ?_ | refine blk_miss rfl ?_)
      refine W_seq (W_region (L_r (r_ms rfl) (L_r (r_mi rfl) ?_)))
      refine L_r (r_slices_h Tryz.underlying9 rfl rfl (by omega) (by omega)) ?_
      refine L_call (.plain rfl) rfl rfl (r_call Tryz.func14 rfl rfl rfl (by rfl)) (sread_ok w0.heap.size (s.extract 0 a) l _ (by omega) (hL.nw Ch.au (by omega)) (by omega) hal htk) ?_
      rintro v64 w6 ⟨k, v64, rfl, hk, hka, hko, hkl, c6⟩
      have hz6 := c6.size
      have hkn := congrArg List.length hk
      rw [List.length_map, List.length_map] at hkn
      refine L_r (r_mv) (L_r (r_ext3_0 rfl) (L_r (r_ext3_1 rfl) (L_r (r_ext3_2 rfl) (L_r (r_av) (L_r (r_ai rfl) (L_r (r_ai rfl) (L_nil (W_seq ?_))))))))
      refine W_region ?_
      refine L_call (.plain rfl) rfl rfl (r_call Tryz.func9 rfl rfl rfl (by rfl)) (awake_walk w0.heap.size _ (hL.nw Ch.au (by omega)) (by omega)) ?_
      rintro v68 w7 ⟨rfl, c7⟩
      have hz7 := c7.size
      refine L_as (v := .bool _) (v' := .bool true) 68 rfl (congrArg Value.bool (by rfl)) (L_r (r_mb rfl) ?_)
      refine L_g (r_mi rfl) ?_
      refine L_g (r_eql rfl rfl) ?_
      refine L_as (v := .bool _) (v' := .bool true) 71 rfl (dec_t (by rfl)).symm (L_r (r_pt rfl rfl) (L_r (r_mb rfl) ?_))
      refine L_g (r_mv) ?_
      refine L_g (r_lenSl Tryz.underlying22 (by conv => lhs; whnf) Sl.au) ?_
      refine L_g (r_eql rfl rfl) ?_
      refine L_as (v := .bool _) (v' := .bool true) 76 rfl (dec_t (by rfl)).symm (L_r (r_pt rfl rfl) (L_r (r_mb rfl) ?_))
      refine L_g (r_mi rfl) ?_
      refine L_g (r_geq rfl rfl) ?_
      refine L_as (v := .bool _) (v' := .bool true) 80 rfl (dec_t (by omega)).symm (L_r (r_pt rfl rfl) (L_r (r_mb rfl) ?_))
      refine L_g (r_mi rfl) ?_
      refine L_g (r_mi rfl) ?_
      refine L_g (r_eql rfl rfl) ?_
      refine L_as (v := .bool _) (v' := .bool true) 85 rfl (dec_t (by omega)).symm (L_r (r_pt rfl rfl) (L_r (r_mb rfl) ?_))
      refine L_g (r_mi rfl) ?_
      refine L_g (r_ms rfl) ?_
      refine L_g (r_lens Tryz.underlying9 rfl) ?_
      refine L_g (r_lss rfl rfl) ?_
      refine L_as (v := .bool _) (v' := .bool true) 91 rfl (dec_t (by omega)).symm (L_r (r_pt rfl rfl) (L_r (r_mb rfl) ?_))
      refine L_g (r_mi rfl) ?_
      refine L_g (r_eql rfl rfl) ?_
      refine L_as (v := .bool _) (v' := .bool true) 95 rfl (dec_t (by rfl)).symm (L_r (r_pt rfl rfl) (L_r (r_mb rfl) ?_))
      refine L_g (r_mi rfl) ?_
      refine L_g (r_eql rfl rfl) ?_
      refine L_as (v := .bool _) (v' := .bool true) 99 rfl (dec_t (by rfl)).symm (L_r (r_pt rfl rfl) (L_r (r_mb rfl) ?_))
      refine L_g (r_mv) ?_
      refine L_g (r_lenSl Tryz.underlying22 (by conv => lhs; whnf) Sl.au) ?_
      refine L_g (r_mi rfl) ?_
      refine L_g (r_sub rfl rfl (by first | exact wr_i64 (by omega) | rfl)) ?_
      refine L_g (r_eql rfl rfl) ?_
      refine L_as (v := .bool _) (v' := .bool true) 106 rfl (dec_t (by omega)).symm (L_r (r_pt rfl rfl) (L_r (r_ab rfl) (L_nil (W_ret ?_))))
      refine ret1 (v := .bool _) rfl rfl ?_
      exact ⟨rfl, Ch.au⟩
    ·
     exfalso
     omega
theorem line_bad {bad : List UInt8} (h : ∀ x ∈ bad, x ≠ 10) {l : List DD} {t : List UInt8} (hl : allC l) (ht : badT t) (he : bad ++ [10] = shwB l ++ t) (u : List UInt8) : badT (bad ++ 10 :: u) := by
  refine ⟨by simp, fun hg => ?_⟩
  have hc := cut_at (t := u) h
  have hc0 := cut_at (t := []) h
  have e1 : one1 (bad ++ 10 :: u) = bad := by unfold one1; rw [hc]
  have e2 : rst1 (bad ++ 10 :: u) = u := by unfold rst1; rw [hc]
  have hg2 := good_cut hg
  rw [e1, e2] at hg2
  have hck : chkD (parD (sb bad)) := by have := hg.1; rw [e1] at this; exact this
  have hb : bad ++ [10] = linD (parD (sb bad)) := by
    have e3 : (bad ++ [10]) ++ u = linD (parD (sb bad)) ++ u := by rw [← hg2]; simp
    exact List.append_cancel_right e3
  have := (rd_one [⟨parD (sb bad), .slice none 0 0⟩] l [] t (fun x hx => by rw [List.mem_singleton.1 hx]; exact ⟨hck, ranD_par _⟩) hl (.inl rfl) (.inr ht) (by rw [← he, hb]; simp [shwB])).2
  exact ht.1 this.symm
set_option maxHeartbeats 4000000 in
theorem ScriptLine_walk (v : Value) (l : List DD) (bad : ByteArray) (w0 : World) (hz : lGood w0 v l) (hbz : bad.size ≤ 140737488351232) (hL : Sv w0.heap.size w0) : Does Tryz.prog 5 #[v, .string bad] w0 (fun r w' => r = .bool true ∧ Nw w0 w') := by
  obtain ⟨hv, hx, hl⟩ := hz
  have hsn : Sl w0 (.slice none 0 0) 10 0 [] := Sl.nil _ _
  have e10 : ({ data := #[10] } : ByteArray).size = 1 := rfl
  have hbl := bs_length bad
  have hap : ∀ x y : ByteArray, (x ++ y).size = x.size + y.size := fun x y => ByteArray.size_append
  refine fn_of (n := 80) (args := [v, .string bad]) Tryz.func5 rfl rfl rfl (W_seq (W_region (L_r (r_ab rfl) (L_nil (W_seq (W_seq (W_region (L_r (r_mv) ?_))))))))
  refine L_call (.plain rfl) rfl rfl (r_call Tryz.func8 rfl rfl rfl (by rfl)) (few20_walk v l _ Sl.au hl (fun x h => (hx x h).nw Ch.au)) ?_
  rintro v15 w1 ⟨b, rfl, hfew, c1⟩
  have hz1 := c1.size
  refine L_r (r_not rfl) (L_r (r_mb rfl) ?_)
  refine L_caseb (d := 17) rfl (fun h17 => ?_) (fun h17 => ?_)
  ·
   refine L_ps (L_ps (L_ps (L_r (r_pt rfl rfl) (L_nil ?_))))
   refine W_true rfl (W_seq (W_region ?_))
   refine L_call (.plain rfl) rfl rfl (r_call Tryz.func9 rfl rfl rfl (by rfl)) (awake_walk w0.heap.size _ (hL.nw Ch.au (by omega)) (by omega)) ?_
   rintro v22 w2 ⟨rfl, c2⟩
   have hz2 := c2.size
   refine L_r (r_ab rfl) (L_nil (W_ret ?_))
   refine ret1 (v := .bool _) rfl rfl ?_
   exact ⟨rfl, Ch.au⟩
  ·
   obtain ⟨hl1, hfd⟩ := hfew (by simpa using h17)
   refine L_g (r_ms rfl) ?_
   refine L_g (r_lens Tryz.underlying9 rfl) ?_
   refine L_g (r_gtr rfl rfl) (L_r (r_pf rfl rfl) (L_nil ?_))
   refine W_if rfl (fun h21 => ?_) (fun h21 => ?_)
   ·
    refine W_seq (W_region ?_)
    refine L_call (.plain rfl) rfl rfl (r_call Tryz.func9 rfl rfl rfl (by rfl)) (awake_walk w0.heap.size _ (hL.nw Ch.au (by omega)) (by omega)) ?_
    rintro v22 w3 ⟨rfl, c3⟩
    have hz3 := c3.size
    refine L_r (r_ab rfl) (L_nil (W_ret ?_))
    refine ret1 (v := .bool _) rfl rfl ?_
    exact ⟨rfl, Ch.au⟩
   ·
    refine W_skip (W_seq (W_region (L_r (r_mv) ?_)))
    refine L_call (.plain rfl) rfl rfl (r_call Tryz.func13 rfl rfl rfl (by rfl)) (rshow_any v l _ Sl.au (by omega) (fun x h => (hx x h).askR.nw Ch.au)) ?_
    rintro v25 w4 ⟨s2, b2, rfl, hb2, hs2, c4⟩
    have hz4 := c4.size
    refine L_r (r_mv) (L_r (r_ext2_0 rfl) (L_r (r_ext2_1 rfl) (L_r (r_as rfl) (L_r (r_ab rfl) (L_nil (W_seq (W_region (L_r (r_ms rfl) ?_))))))))
    refine L_r (r_adds rfl rfl (by first | omega | (simp only [ByteArray.size_append]; omega))) ?_
    refine L_call (.plain rfl) rfl rfl (r_call Tryz.func14 rfl rfl rfl (by rfl)) (sread_any w0.heap.size (bad ++ { data := #[10] }) _ (by rw [hap]; omega) (hL.nw Ch.au (by omega)) (by omega)) ?_
    rintro v31 w5 ⟨l1, t1, v31, n, e, rfl, hrd, c5⟩
    have hz5 := c5.size
    have hal1 := hrd.al
    have heq := hrd.eq
    have hor := hrd.or
    refine L_r (r_mv) (L_r (r_ext3_0 rfl) (L_r (r_ext3_1 rfl) (L_r (r_ext3_2 rfl) (L_r (r_av) (L_r (r_ai rfl) (L_r (r_ai rfl) (L_nil (W_seq ?_))))))))
    refine W_seq (W_region (L_r (r_mb rfl) (L_r (r_not rfl) (L_r (r_mb rfl) ?_))))
    refine L_caseb (d := 37) rfl (fun h37 => ?_) (fun h37 => ?_)
    ·
     refine L_ps (L_ps (L_r (r_pt rfl rfl) (L_nil ?_)))
     refine W_true rfl (W_seq (W_region ?_))
     refine L_call (.plain rfl) rfl rfl (r_call Tryz.func9 rfl rfl rfl (by rfl)) (awake_walk w0.heap.size _ (hL.nw Ch.au (by omega)) (by omega)) ?_
     rintro v41 w6 ⟨rfl, c6⟩
     have hz6 := c6.size
     refine L_r (r_ab rfl) (L_nil (W_ret ?_))
     refine ret1 (v := .bool _) rfl rfl ?_
     exact ⟨rfl, Ch.au⟩
    ·
     have hall : ∀ x ∈ l, chkD x.d := hb2.1 (by simpa using h37)
     obtain rfl := hs2 hall
     have hac : allC l := fun x h => ⟨hall x h, (hx x h).ran⟩
     have hln := shwB_len2 l hac
     have hss := sb_size (shwB l)
     refine L_g (r_mi rfl) ?_
     refine L_g (r_eql rfl rfl) (L_r (r_pf rfl rfl) (L_nil ?_))
     refine W_if rfl (fun h40 => ?_) (fun h40 => ?_)
     ·
      refine W_seq (W_region ?_)
      refine L_call (.plain rfl) rfl rfl (r_call Tryz.func9 rfl rfl rfl (by rfl)) (awake_walk w0.heap.size _ (hL.nw Ch.au (by omega)) (by omega)) ?_
      rintro v41 w7 ⟨rfl, c7⟩
      have hz7 := c7.size
      refine L_r (r_ab rfl) (L_nil (W_ret ?_))
      refine ret1 (v := .bool _) rfl rfl ?_
      exact ⟨rfl, Ch.au⟩
     ·
      have hbt : badT t1 := by
        rcases hor with k | k
        · exact absurd k.2.2 h40
        · exact k.1
      refine W_skip (W_seq (W_seq (W_region (L_r (r_ai rfl) (L_nil (W_block ?_))))))
      refine W_loopF [0, 1, 5] (fun mz_ f W => ∃ (i : Nat), f 10 = .int .i64 i ∧ (i ≤ bad.size ∧ (∀ j, j < i → (bat bad j).toNat ≠ 10) ∧ Nw w0 W) ∧ mz_ = bad.size - i) ?_ ?_
      ·
       refine ⟨_, 0, rfl, ?_, rfl⟩
       exact ⟨by omega, fun j hj => absurd hj (by omega), Ch.au⟩
      rintro m0 g0 w8 ⟨i, hf10, hR0, rfl⟩
      refine W_as 10 hf10 rfl ?_
      clear hf10
      obtain ⟨hi, hno, hnw⟩ := hR0
      have hzz := hnw.size
      refine W_seq (W_seq (W_region (L_r (r_mi rfl) (L_r (r_ms rfl) ?_))))
      refine L_r (r_lens Tryz.underlying9 rfl) (L_r (r_lss rfl rfl) (L_nil ?_))
      refine W_if rfl (fun h45 => ?_) (fun h45 => ?_)
      ·
       refine W_skip (W_seq (W_block (W_seq (W_region (L_r (r_ms rfl) (L_r (r_mi rfl) ?_))))))
       refine L_r (r_indexs Tryz.underlying9 rfl rfl (by omega) (by omega) (by conv => lhs; (try simp only [Nat.mul_one, Nat.zero_add, Int.toNat_natCast, Int.toNat_zero, Int.reduceToNat, Nat.reduceMul, Nat.reduceAdd]))) (L_r (r_eql rfl rfl) (L_nil ?_))
       refine W_if rfl (fun h51 => ?_) (fun h51 => ?_)
       ·
        refine W_seq (W_region (L_r (r_ab rfl) (L_nil (W_ret ?_))))
        refine ret1 (v := .bool _) rfl rfl ?_
        exact ⟨rfl, Ch.au⟩
       ·
        refine W_skip (W_region (L_r (r_mi rfl) ?_))
        refine L_r (r_add rfl rfl (by first | exact wr_i64 (by omega) | rfl)) (L_r (r_ai rfl) (L_nil ?_))
        refine ⟨⟨fx2, fx2, fx2, trivial⟩, _, ?_, i + 1, rfl, ?_, rfl⟩
        · omega
        refine ⟨by omega, fun j hj => ?_, Ch.au⟩
        rcases Nat.lt_or_ge j i with k | k
        · exact hno j k
        · rw [show j = i by omega]; omega
      ·
       have hnone : ∀ x ∈ bs bad, x ≠ 10 := by
         intro x hx2 e2
         obtain ⟨j, hj, hje⟩ := mem_bat hx2
         refine hno j (by omega) ?_
         rw [hje, e2]; rfl
       have hb10 : bs (bad ++ { data := #[10] }) = bs bad ++ [10] := by rw [bs_append]; rfl
       have hbx := line_bad hnone hal1 hbt (by rw [← hb10]; exact heq) (shwB l)
       have hfull : bs (sb (shwB l) ++ bad ++ { data := #[10] } ++ sb (shwB l)) = shwB l ++ (bs bad ++ 10 :: shwB l) := by
         rw [bs_append, bs_append, bs_append, bs_sb]
         show shwB l ++ bs bad ++ [10] ++ shwB l = _
         simp
       refine W_exit ?_
       repeat (first | refine blk_hit ?_ | refine blk_miss rfl ?_)
       refine W_seq (W_region (L_r (r_ms rfl) (L_r (r_ms rfl) ?_)))
       refine L_r (r_adds rfl rfl (by first | omega | (simp only [ByteArray.size_append]; omega))) ?_
       refine L_r (r_adds rfl rfl (by first | omega | (simp only [ByteArray.size_append]; omega))) (L_r (r_ms rfl) ?_)
       refine L_r (r_adds rfl rfl (by first | omega | (simp only [ByteArray.size_append]; omega))) ?_
       refine L_call (.plain rfl) rfl rfl (r_call Tryz.func14 rfl rfl rfl (by rfl)) (sread_bad w0.heap.size (sb (shwB l) ++ bad ++ { data := #[10] } ++ sb (shwB l)) l (bs bad ++ 10 :: shwB l) _ (by simp only [ByteArray.size_append]; omega) (hL.nw Ch.au (by omega)) (by omega) hac hbx hfull) ?_
       rintro v59 w9 ⟨rfl, c9⟩
       have hz9 := c9.size
       refine L_r (r_mv) (L_r (r_ext3_0 rfl) (L_r (r_ext3_1 rfl) (L_r (r_ext3_2 rfl) (L_r (r_av) (L_r (r_ai rfl) (L_r (r_ai rfl) (L_nil (W_seq ?_))))))))
       refine W_region ?_
       refine L_call (.plain rfl) rfl rfl (r_call Tryz.func9 rfl rfl rfl (by rfl)) (awake_walk w0.heap.size _ (hL.nw Ch.au (by omega)) (by omega)) ?_
       rintro v63 w10 ⟨rfl, c10⟩
       have hz10 := c10.size
       refine L_as (v := .bool _) (v' := .bool true) 63 rfl (congrArg Value.bool (by rfl)) (L_r (r_mb rfl) ?_)
       refine L_g (r_mv) ?_
       refine L_g (r_lenSl Tryz.underlying22 (by conv => lhs; whnf) Sl.au) ?_
       refine L_g (r_eql rfl rfl) ?_
       refine L_as (v := .bool _) (v' := .bool true) 67 rfl (dec_t (by rfl)).symm (L_r (r_pt rfl rfl) (L_r (r_mb rfl) ?_))
       refine L_g (r_mi rfl) ?_
       refine L_g (r_mv) ?_
       refine L_g (r_lenSl Tryz.underlying22 (by conv => lhs; whnf) Sl.au) ?_
       refine L_g (r_add rfl rfl (by first | exact wr_i64 (by omega) | rfl)) ?_
       refine L_g (r_eql rfl rfl) ?_
       refine L_as (v := .bool _) (v' := .bool true) 74 rfl (dec_t (by omega)).symm (L_r (r_pt rfl rfl) (L_r (r_mb rfl) ?_))
       refine L_g (r_mi rfl) ?_
       refine L_g (r_eql rfl rfl) ?_
       refine L_as (v := .bool _) (v' := .bool true) 78 rfl (dec_t (by rfl)).symm (L_r (r_pt rfl rfl) (L_r (r_ab rfl) (L_nil (W_ret ?_))))
       refine ret1 (v := .bool _) rfl rfl ?_
       exact ⟨rfl, Ch.au⟩
end Go.Proofs.YtgmeojpekdekeaaGreatDoor

namespace Go.Proofs.YtgmeojpekdekeaaGreatDoor
open Go Go.RowKit
set_option linter.unusedVariables false
set_option linter.unusedSimpArgs false
set_option maxRecDepth 100000
theorem cellsDD_one {l : List DD} (h : ∀ x ∈ l, x.va.oneCell' = true) : ∀ y ∈ cellsDD l, y.oneCell' = true := by
  intro y hy
  obtain ⟨x, hx, hv⟩ := List.mem_flatMap.1 hy
  have := h x hx
  simp at hv
  rcases hv with rfl | rfl | rfl | rfl | rfl | rfl | rfl | rfl | rfl | rfl <;> first | rfl | exact this
theorem LsAt.one {W : World} {b : Nat} {l : List DD} (h : LsAt W b l) : ∀ x ∈ l, x.va.oneCell' = true := fun x hx => ow_one (h x hx)
set_option maxHeartbeats 4000000 in
theorem ScriptJoins_walk (a b : ByteArray) (w0 : World) (haz : a.size ≤ 140737488351232) (hbz : b.size ≤ 140737488351232) (hL : Sv w0.heap.size w0) : Does Tryz.prog 6 #[.string a, .string b] w0 (fun r w' => r = .bool true ∧ Nw w0 w') := by
  have hla := bs_length a
  have hlb := bs_length b
  refine fn_of (n := 104) (args := [.string a, .string b]) Tryz.func6 rfl rfl rfl (W_seq (W_region (L_r (r_ab rfl) (L_nil (W_seq (W_seq (W_region (L_r (r_ms rfl) ?_))))))))
  refine L_r (r_lens Tryz.underlying9 rfl) (L_r (r_gtr rfl rfl) (L_r (r_mb rfl) ?_))
  refine L_case (d := 17) rfl (fun h17 => ?_) (fun h17 => ?_)
  ·
   refine L_ps (L_ps (L_ps (L_r (r_pt rfl rfl) (L_nil ?_))))
   refine W_true rfl (W_seq (W_region ?_))
   refine L_call (.plain rfl) rfl rfl (r_call Tryz.func9 rfl rfl rfl (by rfl)) (awake_walk w0.heap.size _ (hL.nw Ch.au (by omega)) (by omega)) ?_
   rintro v22 w1 ⟨rfl, c1⟩
   have hz1 := c1.size
   refine L_r (r_ab rfl) (L_nil (W_ret ?_))
   refine ret1 (v := .bool _) rfl rfl ?_
   exact ⟨rfl, Ch.au⟩
  ·
   refine L_g (r_ms rfl) ?_
   refine L_g (r_lens Tryz.underlying9 rfl) ?_
   refine L_g (r_gtr rfl rfl) (L_r (r_pf rfl rfl) (L_nil ?_))
   refine W_if rfl (fun h21 => ?_) (fun h21 => ?_)
   ·
    refine W_seq (W_region ?_)
    refine L_call (.plain rfl) rfl rfl (r_call Tryz.func9 rfl rfl rfl (by rfl)) (awake_walk w0.heap.size _ (hL.nw Ch.au (by omega)) (by omega)) ?_
    rintro v22 w2 ⟨rfl, c2⟩
    have hz2 := c2.size
    refine L_r (r_ab rfl) (L_nil (W_ret ?_))
    refine ret1 (v := .bool _) rfl rfl ?_
    exact ⟨rfl, Ch.au⟩
   ·
    refine W_skip (W_seq (W_region (L_r (r_ms rfl) ?_)))
    refine L_call (.plain rfl) rfl rfl (r_call Tryz.func14 rfl rfl rfl (by rfl)) (sread_any w0.heap.size a _ (by omega) (hL.nw Ch.au (by omega)) (by omega)) ?_
    rintro v25 w3 ⟨l1, u1, v25, n1, e1, rfl, hrd1, c3⟩
    have hz3 := c3.size
    have hor1 := hrd1.or
    have heq1 := hrd1.eq
    have hal1 := hrd1.al
    have how1 := hrd1.ow
    have hls1 := hrd1.ls
    have hel1 := congrArg List.length heq1
    rw [List.length_append] at hel1
    have hge1 := shwB_ge l1
    refine L_r (r_mv) (L_r (r_ext3_0 rfl) (L_r (r_ext3_1 rfl) (L_r (r_ext3_2 rfl) (L_r (r_av) (L_r (r_ai rfl) (L_r (r_ai rfl) (L_nil (W_seq ?_))))))))
    refine W_region (L_r (r_ms rfl) ?_)
    refine L_call (.plain rfl) rfl rfl (r_call Tryz.func14 rfl rfl rfl (by rfl)) (sread_any w0.heap.size b _ (by omega) (hL.nw Ch.au (by omega)) (by omega)) ?_
    rintro v31 w4 ⟨l2, u2, v31, n2, e2, rfl, hrd2, c4⟩
    have hz4 := c4.size
    have hor2 := hrd2.or
    have heq2 := hrd2.eq
    have hal2 := hrd2.al
    have how2 := hrd2.ow
    have hls2 := hrd2.ls
    have hel2 := congrArg List.length heq2
    rw [List.length_append] at hel2
    have hge2 := shwB_ge l2
    refine L_r (r_mv) (L_r (r_ext3_0 rfl) (L_r (r_ext3_1 rfl) (L_r (r_ext3_2 rfl) (L_r (r_av) (L_r (r_ai rfl) (L_r (r_ai rfl) (L_nil (W_seq ?_))))))))
    refine W_region (L_r (r_ms rfl) (L_r (r_ms rfl) ?_))
    refine L_r (r_adds rfl rfl (by first | omega | (simp only [ByteArray.size_append]; omega))) ?_
    refine L_call (.plain rfl) rfl rfl (r_call Tryz.func14 rfl rfl rfl (by rfl)) (sread_any w0.heap.size (a ++ b) _ (by rw [ByteArray.size_append]; omega) (hL.nw Ch.au (by omega)) (by omega)) ?_
    rintro v39 w5 ⟨l3, u3, v39, n3, e3, rfl, hrd3, c5⟩
    have hz5 := c5.size
    have hor3 := hrd3.or
    have heq3 := hrd3.eq
    have hal3 := hrd3.al
    have how3 := hrd3.ow
    have hls3 := hrd3.ls
    have hel3 := congrArg List.length heq3
    rw [List.length_append, bs_append, List.length_append] at hel3
    have hge3 := shwB_ge l3
    refine L_r (r_mv) (L_r (r_ext3_0 rfl) (L_r (r_ext3_1 rfl) (L_r (r_ext3_2 rfl) (L_r (r_av) (L_r (r_ai rfl) (L_r (r_ai rfl) (L_nil (W_seq ?_))))))))
    refine W_seq (W_region (L_r (r_mi rfl) (L_r (r_neq rfl rfl) (L_nil ?_))))
    refine W_if rfl (fun h44 => ?_) (fun h44 => ?_)
    ·
     have hn1 : n1 = (l1.length : Int) + 1 := by
       rcases hor1 with k | k
       · exact absurd k.2.2 h44
       · exact k.2.1
     refine W_seq (W_region ?_)
     refine L_call (.plain rfl) rfl rfl (r_call Tryz.func9 rfl rfl rfl (by rfl)) (awake_walk w0.heap.size _ (hL.nw Ch.au (by omega)) (by omega)) ?_
     rintro v45 w6 ⟨rfl, c6⟩
     have hz6 := c6.size
     refine L_as (v := .bool _) (v' := .bool true) 45 rfl (congrArg Value.bool (by rfl)) (L_r (r_mb rfl) ?_)
     refine L_g (r_mi rfl) ?_
     refine L_g (r_eql rfl rfl) ?_
     refine L_g (r_mb rfl) ?_
     refine L_case (d := 49) rfl (fun h49 => ?_) (fun h49 => ?_)
     ·
      refine L_g (r_mi rfl) ?_
      refine L_g (r_mi rfl) ?_
      refine L_g (r_eql rfl rfl) ?_
      refine L_g (r_pt rfl rfl) ?_
      refine L_g (r_mb rfl) ?_
      refine L_case (d := 54) rfl (fun h54 => ?_) (fun h54 => ?_)
      ·
       refine L_ps (L_ps (L_ps ?_))
       refine L_pu ?_
       refine L_pu (L_ps ?_)
       refine L_g (r_pt rfl rfl) ?_
       refine L_g (r_mb rfl) (L_ps (L_ps (L_ps ?_)))
       refine L_g (r_pt rfl rfl) ?_
       refine L_g (r_mb rfl) (L_ps (L_ps ?_))
       refine L_g (r_pt rfl rfl) (L_r (r_pt rfl rfl) (L_r (r_ab rfl) (L_nil (W_ret ?_))))
       refine ret1 (v := .bool _) rfl rfl ?_
       exact ⟨rfl, Ch.au⟩
      ·
       refine L_g (r_mi rfl) ?_
       refine L_g (r_gtr rfl rfl) ?_
       refine L_as (v := .bool _) (v' := .bool true) 56 rfl (dec_t (by omega)).symm ?_
       refine L_g (r_mb rfl) ?_
       refine L_g (r_mi rfl) ?_
       refine L_g (r_eql rfl rfl) ?_
       refine L_g (r_pt rfl rfl) ?_
       refine L_g (r_pf rfl rfl) ?_
       refine L_g (r_mb rfl) ?_
       refine L_case (d := 62) rfl (fun h62 => ?_) (fun h62 => ?_)
       ·
        refine L_ps (L_ps (L_ps ?_))
        refine L_g (r_pt rfl rfl) ?_
        refine L_g (r_mb rfl) (L_ps (L_ps ?_))
        refine L_g (r_pt rfl rfl) (L_r (r_pt rfl rfl) (L_r (r_ab rfl) (L_nil (W_ret ?_))))
        refine ret1 (v := .bool _) rfl rfl ?_
        exact ⟨rfl, Ch.au⟩
       ·
        refine L_g (r_mi rfl) ?_
        refine L_g (r_mi rfl) ?_
        refine L_g (r_gtr rfl rfl) ?_
        refine L_g (r_pf rfl rfl) ?_
        refine L_g (r_mb rfl) ?_
        refine L_case (d := 67) rfl (fun h67 => ?_) (fun h67 => ?_)
        ·
         refine L_ps (L_ps ?_)
         refine L_g (r_pt rfl rfl) (L_r (r_pt rfl rfl) (L_r (r_ab rfl) (L_nil (W_ret ?_))))
         refine ret1 (v := .bool _) rfl rfl ?_
         exact ⟨rfl, Ch.au⟩
        ·
         refine L_g (r_mi rfl) ?_
         refine L_g (r_neq rfl rfl) ?_
         refine L_as (v := .bool _) (v' := .bool true) 69 rfl (dec_t (by first | assumption | omega)).symm ?_
         refine L_g (r_pf rfl rfl) (L_r (r_pt rfl rfl) (L_r (r_ab rfl) (L_nil (W_ret ?_))))
         refine ret1 (v := .bool _) rfl rfl ?_
         exact ⟨rfl, Ch.au⟩
     ·
      refine L_ps (L_ps (L_ps ?_))
      refine L_g (r_pf rfl rfl) ?_
      refine L_g (r_mb rfl) ?_
      refine L_g (r_mi rfl) ?_
      refine L_g (r_gtr rfl rfl) ?_
      refine L_as (v := .bool _) (v' := .bool true) 56 rfl (dec_t (by omega)).symm ?_
      refine L_g (r_mb rfl) ?_
      refine L_g (r_mi rfl) ?_
      refine L_g (r_eql rfl rfl) ?_
      refine L_g (r_pt rfl rfl) ?_
      refine L_g (r_pf rfl rfl) ?_
      refine L_g (r_mb rfl) ?_
      refine L_case (d := 62) rfl (fun h62 => ?_) (fun h62 => ?_)
      ·
       refine L_ps (L_ps (L_ps ?_))
       refine L_g (r_pt rfl rfl) ?_
       refine L_g (r_mb rfl) (L_ps (L_ps ?_))
       refine L_g (r_pt rfl rfl) (L_r (r_pt rfl rfl) (L_r (r_ab rfl) (L_nil (W_ret ?_))))
       refine ret1 (v := .bool _) rfl rfl ?_
       exact ⟨rfl, Ch.au⟩
      ·
       refine L_g (r_mi rfl) ?_
       refine L_g (r_mi rfl) ?_
       refine L_g (r_gtr rfl rfl) ?_
       refine L_g (r_pf rfl rfl) ?_
       refine L_g (r_mb rfl) ?_
       refine L_case (d := 67) rfl (fun h67 => ?_) (fun h67 => ?_)
       ·
        refine L_ps (L_ps ?_)
        refine L_g (r_pt rfl rfl) (L_r (r_pt rfl rfl) (L_r (r_ab rfl) (L_nil (W_ret ?_))))
        refine ret1 (v := .bool _) rfl rfl ?_
        exact ⟨rfl, Ch.au⟩
       ·
        refine L_g (r_mi rfl) ?_
        refine L_g (r_neq rfl rfl) ?_
        refine L_as (v := .bool _) (v' := .bool true) 69 rfl (dec_t (by first | assumption | omega)).symm ?_
        refine L_g (r_pf rfl rfl) (L_r (r_pt rfl rfl) (L_r (r_ab rfl) (L_nil (W_ret ?_))))
        refine ret1 (v := .bool _) rfl rfl ?_
        exact ⟨rfl, Ch.au⟩
    ·
     obtain ⟨hu1, hn1⟩ : u1 = [] ∧ n1 = 0 := by
       rcases hor1 with k | k
       · exact ⟨k.1, k.2.1⟩
       · exfalso; omega
     have he1 : e1 = 0 := by omega
     have how1 := how1 he1
     have hls1 := hls1 he1
     have hab : bs (a ++ b) = shwB (l1 ++ l2) ++ u2 := by rw [bs_append, heq1, heq2, hu1, List.append_nil, shwB_app, List.append_assoc]
     obtain ⟨hmm, huu⟩ := rd_one (l1 ++ l2) l3 u2 u3 (allC_app hal1 hal2) hal3 (hor2.elim (fun k => .inl k.1) (fun k => .inr k.1)) (hor3.elim (fun k => .inl k.1) (fun k => .inr k.1)) (by rw [← hab, heq3])
     have hml := congrArg List.length hmm
     rw [List.length_map, List.length_map, List.length_append] at hml
     refine W_skip (W_seq (W_seq (W_region (L_r (r_mi rfl) (L_r (r_neq rfl rfl) (L_nil ?_))))))
     refine W_if rfl (fun h73 => ?_) (fun h73 => ?_)
     ·
      obtain ⟨hbt2, hn2, he2⟩ : badT u2 ∧ n2 = (l2.length : Int) + 1 ∧ e2 = 200 := by
        rcases hor2 with k | k
        · exact absurd k.2.2 h73
        · exact k
      obtain ⟨hn3, he3⟩ : n3 = (l3.length : Int) + 1 ∧ e3 = 200 := by
        rcases hor3 with k | k
        · exact absurd (huu.trans k.1) hbt2.1
        · exact k.2
      refine W_seq (W_region ?_)
      refine L_call (.plain rfl) rfl rfl (r_call Tryz.func9 rfl rfl rfl (by rfl)) (awake_walk w0.heap.size _ (hL.nw Ch.au (by omega)) (by omega)) ?_
      rintro v74 w7 ⟨rfl, c7⟩
      have hz7 := c7.size
      refine L_as (v := .bool _) (v' := .bool true) 74 rfl (congrArg Value.bool (by rfl)) (L_r (r_mb rfl) ?_)
      refine L_g (r_mi rfl) ?_
      refine L_g (r_mi rfl) ?_
      refine L_g (r_eql rfl rfl) ?_
      refine L_as (v := .bool _) (v' := .bool true) 78 rfl (dec_t (by omega)).symm (L_r (r_pt rfl rfl) (L_r (r_mb rfl) ?_))
      refine L_g (r_mi rfl) ?_
      refine L_g (r_mv) ?_
      refine L_g (r_lenSl Tryz.underlying22 (by conv => lhs; whnf) Sl.au) ?_
      refine L_g (r_mi rfl) ?_
      refine L_g (r_add rfl rfl (by first | exact wr_i64 (by omega) | rfl)) ?_
      refine L_g (r_eql rfl rfl) ?_
      refine L_as (v := .bool _) (v' := .bool true) 86 rfl (dec_t (by omega)).symm (L_r (r_pt rfl rfl) (L_r (r_ab rfl) (L_nil (W_ret ?_))))
      refine ret1 (v := .bool _) rfl rfl ?_
      exact ⟨rfl, Ch.au⟩
     ·
      obtain ⟨hu2, hn2⟩ : u2 = [] ∧ n2 = 0 := by
        rcases hor2 with k | k
        · exact ⟨k.1, k.2.1⟩
        · exfalso; omega
      have he2 : e2 = 0 := by omega
      have how2 := how2 he2
      have hls2 := hls2 he2
      obtain ⟨hn3, he3⟩ : n3 = 0 ∧ e3 = 0 := by
        rcases hor3 with k | k
        · exact k.2
        · exact absurd (huu.symm.trans hu2) k.1.1
      have how3 := how3 he3
      have hls3 := hls3 he3
      refine W_skip (W_seq (W_region ?_))
      refine L_call (.plain rfl) rfl rfl (r_call Tryz.func9 rfl rfl rfl (by rfl)) (awake_walk w0.heap.size _ (hL.nw Ch.au (by omega)) (by omega)) ?_
      rintro v88 w8 ⟨rfl, c8⟩
      have hz8 := c8.size
      refine L_as (v := .bool _) (v' := .bool true) 88 rfl (congrArg Value.bool (by rfl)) (L_r (r_mb rfl) ?_)
      refine L_g (r_mi rfl) ?_
      refine L_g (r_eql rfl rfl) ?_
      refine L_as (v := .bool _) (v' := .bool true) 91 rfl (dec_t (by omega)).symm (L_r (r_pt rfl rfl) (L_r (r_mb rfl) ?_))
      refine L_g (r_mi rfl) ?_
      refine L_g (r_eql rfl rfl) ?_
      refine L_as (v := .bool _) (v' := .bool true) 95 rfl (dec_t (by omega)).symm (L_r (r_pt rfl rfl) (L_r (r_mb rfl) ?_))
      refine L_g (r_mv) ?_
      refine L_g (r_mv) ?_
      refine L_g (r_mv) ?_
      refine L_apow Tryz.underlying22 dd_info rfl (by decide) (.yes 9 true rfl rfl) rfl (by conv => lhs; whnf) (by conv => lhs; whnf) Ow.au Sl.au (cellsDD_one hls2.one) (by unfold maxLen; omega) (by omega) (by omega) (fun v101 w9 ho101 c9 hob101 => ?_)
      have hz9 := c9.size
      rw [← List.length_append, ← cellsDD_append] at ho101
      have hb1 := fun i (h : v25.ownBlock = some i) => ow_base how1 h
      have hA1 : LsAt w8 w0.heap.size l1 := (hls1.nw Ch.au).mono (by omega)
      have hA2 : LsAt w8 w0.heap.size l2 := (hls2.nw Ch.au).mono (by omega)
      have hA3 : LsAt w8 w0.heap.size l3 := (hls3.nw Ch.au).mono (by omega)
      have hO1 : Ow w8 w0.heap.size 29 10 v25 l1.length (cellsDD l1) := Ow.mono Ow.au (by omega)
      have hB : LsAt w9 w0.heap.size (l1 ++ l2) := (hA1.app hA2).own hO1 (by decide) c9
      have hB3 : LsAt w9 w0.heap.size l3 := hA3.own hO1 (by decide) c9
      have hlt1 : ∀ i, v25.ownBlock = some i → i < _ := fun i h => Ow.lt how1 h
      have hne : ∀ i, v39.ownBlock = some i → v25.ownBlock ≠ some i := fun i h q => by have h1 := Ow.lt how1 q; have h2 := ow_base how3 h; omega
      have hO3 : Ow w9 _ 29 10 v39 l3.length (cellsDD l3) := Ow.to (show Ow w8 _ 29 10 v39 l3.length (cellsDD l3) from Ow.au) (fun i h => ⟨c9.size, fun hl => c9.blk i hl (hne i h)⟩)
      refine L_call (.yes 9 true rfl rfl) rfl rfl (r_call Tryz.func15 rfl rfl rfl (by rfl)) (rsame_walk v39 v101 l3 (l1 ++ l2) _ (Ow.sl hO3) (Ow.sl ho101) (by omega) (by rw [List.length_append]; omega) (fun x h => ⟨(hB3 x h).sl, by have := (hal3 x h).1.len; omega⟩) (fun x h => ⟨(hB x h).sl, by have := (allC_app hal1 hal2 x h).1.len; omega⟩)) ?_
      rintro v102 w10 ⟨bsm, rfl, hbsm, c10⟩
      have hz10 := c10.size
      refine L_as (v := .bool _) (v' := .bool true) 102 rfl (congrArg Value.bool (by exact hbsm.2 hmm.symm)) (L_r (r_pt rfl rfl) (L_r (r_ab rfl) (L_nil (W_ret ?_))))
      refine ret1 (v := .bool _) rfl rfl ?_
      exact ⟨rfl, Ch.au⟩
end Go.Proofs.YtgmeojpekdekeaaGreatDoor

namespace Go.Proofs.YtgmeojpekdekeaaGreatDoor
open Go Go.RowKit Go.Lib
set_option linter.unusedVariables false
set_option maxRecDepth 100000
/-- The wrap: with a condition beside, and the world's shape kept. -/
theorem handed_and_shaped {H : Type} {enc : TypeId × Value → H} {a : Assume} {C : Checked} {os : Os} {f : FuncId} {fn : Func} {s : ChangeSpec} {conds : List PathCond} {apart fresh handsOn again : Bool} {X : World → Array Value → Prop}
    (hX : ∀ (w w' : World) (args : Array Value), w.heap = w'.heap → X w args → X w' args)
    (own : ownKnob C.prog.godebug = none) (started : os.Started) (noInit : C.prog.inits.idxOf? f = none) (hfn : C.prog.funcs[f]? = some fn)
    (witness : ∃ (w : World) (tape : Tape) (i : Input), w.os = os ∧ (w.forCall tape i).Shaped C.prog ∧ i.vars = [] ∧ Input.okWide C.prog (w.forCall tape i) .any w.heap.size f i ∧
      ((s.pre enc C.prog fn conds apart (w.forCall tape i).memory i.args ∧ X (w.forCall tape i).memory i.args) ∧ sizedMet enc C.prog fn (OpenSpec.ofChange s) apart (w.forCall tape i).memory i.args) ∧ a.holds C.prog (lone (Frame.enter C.prog f i.args .normal) [] (w.forCall tape i)))
    (contract : ∀ (W : World) (base : Nat) (args : Array Value) (ds gs : List (DataW H)) (before : List MemPlace),
      (∀ (j : Nat) t v, fn.params[j]? = some t → args[j]? = some v → Value.okWide C.prog W .any base t v) →
      DataW.Whole enc C.prog fn.params.toList s.vars apart W args.toList ds gs before →
      conds.all (PathCond.test C.prog ⟨fn.params.toList, ds, s.plain.varTypes C.prog, gs⟩) = true →
      (DataW.weightsEach C.prog (fn.params.toList ++ s.plain.varTypes C.prog) (ds ++ gs)).all (· ≤ reachBytes) = true → X W args → W.ShapedOpen C.prog →
      a.holds C.prog (lone (Frame.enter C.prog f args .normal) [] W) →
      Calls C.prog f args W fun e W' => ∃ v, e = .returned v ∧ s.post enc C.prog fn apart fresh handsOn again W args v W') :
    ReturnsInHanded a C os f .any (fun w args => (s.pre enc C.prog fn conds apart w args ∧ X w args) ∧ sizedMet enc C.prog fn (OpenSpec.ofChange s) apart w args) (s.post enc C.prog fn apart fresh handsOn again) := by
  refine returnsInHanded_of_calls own started noInit witness ?_
  intro w tape i _ hsh _ hok hpre hholds
  obtain ⟨_, _, _, fn', hfn', _, _, _, _, hval⟩ := hok
  obtain rfl : fn' = fn := Option.some.inj (hfn'.symm.trans hfn)
  obtain ⟨⟨⟨ds, gs, before, hw, hc⟩, hx⟩, hz⟩ := hpre
  refine (contract (w.forCall tape i) w.heap.size i.args ds gs before hval (DataW.Whole.of_heap (w' := w.forCall tape i) (by rfl) hw) hc (hz.weights hw) (hX _ _ _ (by rfl) hx) hsh hholds).mono fun e W' hv => ?_
  obtain ⟨v, rfl, hp⟩ := hv
  exact ChangeSpec.post_blind hp
/-- What the rows list. -/
noncomputable def laidL : List (String × DataW Unit) := Rows.scriptShowsRow.laid
theorem laid_plain (W : World) : laidMetH Tryz.prog laidL W = laidMet Tryz.prog laidL W := MakeChecks.laidMetH_plain _ _ _ (by kernel_rfl)
theorem pow_eq : (Rows.laid_internal_strconv_uint64pow10 : DataW Unit) = Lib.tabData .u64 Lib.pow10Tab := by kernel_rfl
def entD (o : ByteArray × ByteArray) : DataW Unit := .agg [.lit (.string (bs o.1)), .lit (.string (bs o.2))]
theorem ent_eq : (Rows.laid_squinch_script_entries : DataW Unit) = .agg (entT.map entD) := by kernel_rfl
theorem lt_blk {W : World} {g : Nat} {o : Obj} (hc : W.heap[g]? = some o) : g < W.heap.size := (Array.getElem?_eq_some_iff.1 hc).1
theorem entL_len : (entT.flatMap entr).length = 22 := rfl
/-- A row of a kind. -/
theorem ent_cells {W : World} {fuel : Nat} {cs : List Value} {o : ByteArray × ByteArray} {p : List MemPlace} (h : DataW.trod (fun _ => ()) Tryz.prog W 0 (fun _ => true) false fuel 69 cs = some (entD o, p)) : cs = entr o := by
  obtain ⟨xs, m, _, hx, hl, hxl, hf⟩ := DataW.trod_struct Tryz.underlying69 h
  have h0 := congrArg Prod.fst hx
  have hl3 : cs.length = 2 := hl
  have hf2 : ∀ (i : Nat) (f : Field), _ = some f → DataW.trod (fun _ => ()) Tryz.prog W 0 (fun _ => true) false m f.type ((cs.drop f.offset).take (Tryz.prog.cellsOf f.type)) = xs[i]? := hf
  have hxl3 : xs.length = 2 := hxl
  match cs, hl3, xs, hxl3 with
  | [c0, c1], _, [x0, x1], _ =>
    have g0 := hf2 0 _ rfl
    have g1 := hf2 1 _ rfl
    obtain ⟨s0, e0, k0⟩ := DataW.trod_string Tryz.underlying9 g0
    obtain ⟨s1, e1, k1⟩ := DataW.trod_string Tryz.underlying9 g1
    obtain rfl : c0 = .string s0 := by injection e0
    obtain rfl : c1 = .string s1 := by injection e1
    obtain rfl : x0 = _ := k0.1
    obtain rfl : x1 = _ := k1.1
    simp only [entD, List.map_cons, List.map_nil] at h0
    injection h0 with h0
    injection h0 with a0 h0
    injection h0 with a1 h0
    injection a0 with a0
    injection a0 with a0
    injection a1 with a1
    injection a1 with a1
    have e : s0 = o.1 := bs_inj.1 a0.symm
    have e' : s1 = o.2 := bs_inj.1 a1.symm
    rw [e, e']
theorem ents_of {W : World} (h : VarReads Tryz.prog W "squinch/script.entries" (.agg (entT.map entD))) : (∀ (i : Nat) (u : Value), (entT.flatMap entr)[i]? = some u → W.cell? ⟨0, i, none⟩ = some u) ∧ ∃ cs t fr, W.heap[0]? = some (.cells cs t fr) := by
  obtain ⟨g, t, cs, fuel, p, hg, hty, hvar, hd⟩ := h
  obtain rfl := Option.some.inj ((show Tryz.prog.globalNamed "squinch/script.entries" = some 0 by kernel_rfl).symm.trans hg)
  obtain rfl := Option.some.inj ((show (Tryz.prog.globals[0]?).map (·.type) = some 70 by kernel_rfl).symm.trans hty)
  constructor
  ·
   intro k u hu
   have hk : k < 22 := by rw [← entL_len]; exact (List.getElem?_eq_some_iff.1 hu).1
   have hi : k / 2 < 11 := by omega
   obtain ⟨fuel', d, q, hd1, hd2⟩ := array_elem (n := 11) Tryz.underlying70 hd (k / 2) hi
   have hi' : k / 2 < entT.length := by rw [entT_len]; exact hi
   rw [List.getElem?_map, List.getElem?_eq_getElem hi', Option.map_some] at hd1
   injection hd1 with hd1
   subst hd1
   have hrow := ent_cells hd2
   have h3 : Tryz.prog.cellsOf 69 = 2 := by kernel_rfl
   rw [h3] at hrow
   have hj : k % 2 < 2 := by omega
   have hjl : k % 2 < (entr entT[k / 2]).length := hj
   have h4 := entL_row entT (k / 2) hi' (k % 2) _ (List.getElem?_eq_getElem hjl)
   rw [show k / 2 * 2 + k % 2 = k by omega, hu] at h4
   injection h4 with h4
   rw [World.var?_cell hg hvar k, ← Array.getElem?_toList]
   have h5 : ((cs.toList.drop (k / 2 * 2)).take 2)[k % 2]? = some u := by rw [hrow, List.getElem?_eq_getElem hjl, h4]
   rw [List.getElem?_take_of_lt hj, List.getElem?_drop, show k / 2 * 2 + k % 2 = k by omega] at h5
   exact h5
  ·
   unfold World.var? at hvar
   rw [hg, Option.bind_some] at hvar
   split at hvar
   ·
    rename_i cs' t' fr' hh
    exact ⟨_, _, _, hh⟩
   · cases hvar
theorem pow_of {W : World} (h : VarReads Tryz.prog W "internal/strconv.uint64pow10" (Lib.tabData .u64 Lib.pow10Tab)) : ∃ t fr, W.heap[2]? = some (.cells (Lib.pow10Tab.map fun z => Value.int .u64 z).toArray t fr) := by
  obtain ⟨g, t, cs, fuel, p, hg, hty, hvar, hd⟩ := h
  obtain rfl := Option.some.inj (spow_name.symm.trans hg)
  obtain rfl := Option.some.inj ((show (Tryz.prog.globals[2]?).map (·.type) = some 119 by kernel_rfl).symm.trans hty)
  have hcs := cells_of_tab (n := 20) Tryz.underlying119 Tryz.underlying26 (by kernel_rfl) (by kernel_rfl) hd
  unfold World.var? at hvar
  rw [hg, Option.bind_some] at hvar
  split at hvar
  ·
   rename_i cs' t' fr' hh
   injection hvar with hvar
   subst hvar
   refine ⟨t', fr', hh.trans ?_⟩
   rw [← hcs]
  · cases hvar
theorem ev_of {W : World} {n nm : String} {d : DataW Unit} {g : Nat} (h : VarReads Tryz.prog W n (.iface nm d)) (hg : Tryz.prog.globalNamed n = some g) (ht : (Tryz.prog.globals[g]?).map (·.type) = some 84) : ∃ ev, W.cell? ⟨g, 0, none⟩ = some ev ∧ (ev = .nilIface ∨ ∃ te pe, ev = .iface te pe) := by
  obtain ⟨g', t, cs, fuel, p, hg', hty, hvar, hd⟩ := h
  obtain rfl := Option.some.inj (hg.symm.trans hg')
  obtain rfl := Option.some.inj (ht.symm.trans hty)
  obtain ⟨f1, u, v, hcs, _, _⟩ := iface_of_trod Tryz.underlying84 hd
  exact ⟨.iface u v, by rw [World.var?_cell hg hvar 0, ← Array.getElem?_toList, hcs]; rfl, .inr ⟨u, v, rfl⟩⟩
theorem acc_lt {W : World} {d : DataW Unit} (h : VarReads Tryz.prog W "unicode/utf8.acceptRanges" d) : 8 < W.heap.size := by
  obtain ⟨g, t, cs, fuel, p, hg, hty, hvar, hd⟩ := h
  obtain rfl := Option.some.inj ((show Tryz.prog.globalNamed "unicode/utf8.acceptRanges" = some 8 by kernel_rfl).symm.trans hg)
  unfold World.var? at hvar
  rw [hg, Option.bind_some] at hvar
  split at hvar
  ·
   rename_i cs' t' fr' hh
   exact lt_blk hh
  · cases hvar
theorem max_of {W : World} (hsh : W.ShapedOpen Tryz.prog) : ∃ m, W.cell? ⟨1, 0, none⟩ = some (.int .i64 m) :=
  cell_of_shapedOpen_int (P := Tryz.prog) (g := 1) (t := 3) (zero := #[.int .i64 0]) hsh (of_decide_eq_true (by kernel_rfl)) (by kernel_rfl) rfl (by kernel_rfl) (by kernel_rfl) Tryz.underlying3
theorem tabs_of {W : World} (h : laidMetH Tryz.prog laidL W) (hsh : W.ShapedOpen Tryz.prog) : Sv W.heap.size W := by
  rw [laid_plain] at h
  have m0 : ("internal/strconv.uint64pow10", Lib.tabData .u64 Lib.pow10Tab) ∈ laidL := by rw [← pow_eq]; exact .tail _ (.tail _ (.head _))
  have m1 : ("strconv.ErrRange", Rows.laid_strconv_ErrRange) ∈ laidL := .tail _ (.tail _ (.tail _ (.tail _ (.head _))))
  have m2 : ("strconv.ErrSyntax", Rows.laid_strconv_ErrSyntax) ∈ laidL := .tail _ (.tail _ (.tail _ (.tail _ (.tail _ (.head _)))))
  have m3 : ("squinch/script.entries", .agg (entT.map entD)) ∈ laidL := by rw [← ent_eq]; exact .tail _ (.tail _ (.tail _ (.tail _ (.tail _ (.tail _ (.head _))))))
  have m4 : ("unicode/utf8.acceptRanges", Rows.laid_unicode_utf8_acceptRanges) ∈ laidL := .tail _ (.tail _ (.tail _ (.head _)))
  obtain ⟨o1, o2⟩ := ents_of (Lib.laidMet.reads h m3)
  obtain ⟨e1, c1, k1⟩ := ev_of (g := 4) (Lib.laidMet.reads h m1) (by kernel_rfl) (by kernel_rfl)
  obtain ⟨e2, c2, k2⟩ := ev_of (g := 3) (Lib.laidMet.reads h m2) (by kernel_rfl) (by kernel_rfl)
  obtain ⟨t, fr, hp⟩ := pow_of (Lib.laidMet.reads h m0)
  exact ⟨⟨t, fr, hp⟩, ⟨e2, c2, k2⟩, ⟨e1, c1, k1⟩, o1, o2, max_of hsh, acc_lt (Lib.laidMet.reads h m4)⟩
/-- The settled world, the listed variables laid. -/
noncomputable def laidWorld (os : Os) : World := World.laidAll Tryz.prog os laidL
theorem laid_met (os : Os) (args : Array Value) : laidMetH Tryz.prog laidL ((laidWorld os).forCall (fun _ _ => 0) ⟨#[], args, []⟩).memory := by
  rw [laid_plain]
  exact laidMet_laidAll args (by kernel_rfl) (by kernel_rfl)
theorem laid_shaped (os : Os) (args : Array Value) : ((laidWorld os).forCall (fun _ _ => 0) ⟨#[], args, []⟩).Shaped Tryz.prog := World.shaped_of_ZipB (by kernel_rfl) (by kernel_rfl)
end Go.Proofs.YtgmeojpekdekeaaGreatDoor
