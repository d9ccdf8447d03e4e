/- Parts of the proof (ClsW, ClsX, ClsY, ClsZ, ClsEq, ClsSm). -/
import Derived.Test.YthpknpfhpkkheaaGreatDoorMGg
namespace Go.Proofs.YthpknpfhpkkheaaGreatDoor
open Go Go.RowKit
set_option linter.unusedVariables false
set_option linter.unusedSimpArgs false
set_option maxRecDepth 100000
set_option maxHeartbeats 4000000 in
theorem tkm_walk (base b p q : Nat) (v : Value) (l : List UInt8) (st : St) (w0 : World) (hR : RdAt base w0 b v l st.1 st.2) (hG : Gv base w0) (hb : base ≤ w0.heap.size) (hp : Bk w0 p #[.pointer (some ⟨b, 0, none⟩)] 59) (hq : Bk w0 q #[.func (.func 87) #[.pointer (some ⟨b, 0, none⟩)] #[]] 107) : Does Tryz.prog 93 #[.pointer (some ⟨q, 0, none⟩), .pointer (some ⟨p, 0, none⟩)] w0 (fun r w' => ∃ y : MM, r = y.v ∧ y.m = (rMth l st).1 ∧ y.own w0.heap.size w' ∧ RdAt base w' b v l (rMth l st).2.1 (rMth l st).2.2 ∧ Ch (fun j => j = b) w0 w') := by
  have hbl := hR.bk.lt
  have hpl := hp.lt
  have hql := hq.lt
  have hvl : ∀ i, v.ownBlock = some i → i < w0.heap.size := fun i hi => hR.ow.lt hi
  have hn1 : b ≠ p := Bk.ne hR.bk hp (by decide)
  have hn2 : b ≠ q := Bk.ne hR.bk hq (by decide)
  have hGc := fun W (c : Ch (fun j => j = b) w0 W) => hG.ch c hb (fun i (hi : i = b) => by rw [hi]; exact hR.hb)
  refine fn_of (n := 28) (args := [.pointer (some ⟨q, 0, none⟩), .pointer (some ⟨p, 0, none⟩)]) Tryz.func93 rfl rfl rfl (W_seq (W_region ?_))
  refine L_new (.plain rfl) rfl rfl (r_alloca rfl) (fun w1 b2 hb2 eb1 hs1 c1 => (L_nil ?_))
  refine W_cutF [0, 1, 2] (fun f W => ∃ (p3 : Nat) (vp : Value), f 3 = .pointer (some ⟨p3, 0, none⟩) ∧ (Bk W p3 #[.string (sb (tx l st)), vp, .string (sb (tx l (m1 l st))), .bool (fg l (m2 l st)), .int .i64 0, .slice none 0 0, .slice none 0 0] 43 ∧ w0.heap.size ≤ p3 ∧ p3 ≠ b2 ∧ Bk W b2 #[.string ByteArray.empty, .slice none 0 0, .string ByteArray.empty, .bool false, .int .i64 0, .slice none 0 0, .slice none 0 0] 43 ∧ Ow W (w0.heap.size + 1) 9 1 vp (rList 32 rTx l (ts l st)).1.length (scells (rList 32 rTx l (ts l st)).1) ∧ RdAt base W b v l (m3 l st).1 (m3 l st).2 ∧ Ch (fun j => j = b) w0 W)) ?_ ?_
  ·
   refine W_draw (fun W => Bk W p #[.pointer (some ⟨b, 0, none⟩)] 59 ∧ Bk W q #[.func (.func 87) #[.pointer (some ⟨b, 0, none⟩)] #[]] 107) 11 (m := 12) (by kernel_rfl) rfl (fun w2 c2 hs2 => ?_)
   refine held (by exact ⟨Bk.au, Bk.au⟩) (fun hS => ?_)
   refine D_t 0 rfl (fun W hW => r_loadb rfl rfl (by first | exact hW.1 | exact hW.2) (by first | assumption | (conv => lhs; simp only [List.getElem?_toArray, List.getElem?_cons_succ, List.getElem?_cons_zero]))) ?_
   refine D_t 2 rfl (fun W hW => r_loadb rfl rfl (by first | exact hW.1 | exact hW.2) (by first | assumption | (conv => lhs; simp only [List.getElem?_toArray, List.getElem?_cons_succ, List.getElem?_cons_zero]))) ?_
   refine D_t 3 rfl (fun W hW => r_loadb rfl rfl (by first | exact hW.1 | exact hW.2) (by first | assumption | (conv => lhs; simp only [List.getElem?_toArray, List.getElem?_cons_succ, List.getElem?_cons_zero]))) ?_
   refine D_t 5 rfl (fun W hW => r_loadb rfl rfl (by first | exact hW.1 | exact hW.2) (by first | assumption | (conv => lhs; simp only [List.getElem?_toArray, List.getElem?_cons_succ, List.getElem?_cons_zero]))) ?_
   refine D_t 7 rfl (fun W hW => r_loadb rfl rfl (by first | exact hW.1 | exact hW.2) (by first | assumption | (conv => lhs; simp only [List.getElem?_toArray, List.getElem?_cons_succ, List.getElem?_cons_zero]))) ?_
   refine D_ev2 1 10 (by kernel_rfl) rfl rfl ?_ ?_
   ·
    refine L_call (.plain rfl) rfl rfl (r_call Tryz.func87 rfl rfl rfl (by rfl)) (rd_text base b v l st _ (hR.nw Ch.au) (hGc _ Ch.au).tab (by omega)) ?_
    rintro v5 w3 ⟨rfl, hR1, c3⟩
    have hz3 := c3.size
    refine L_nil ?_
    refine heldK (by exact ⟨Bk.au, Bk.au⟩) (fun hS => ?_)
    refine D_ev2 4 10 (by kernel_rfl) rfl rfl ?_ ?_
    ·
     refine L_call (.plain rfl) rfl rfl (r_call Tryz.func88 rfl rfl rfl (by rfl)) (read_S base b v l (ts l st) 32 87 [.pointer (some ⟨b, 0, none⟩)] [] rTx _ (hR1.nw Ch.au) (by omega) (by omega) (by omega) ⟨_, _, Tryz.func87, rfl, rfl⟩ (fun W st' c hR' => rd_text base b v l st' W hR' (hGc W Ch.au).tab (by have := c.size; omega))) ?_
     rintro v8 w4 ⟨ho8, hR2, c4⟩
     have hz4 := c4.size
     obtain ⟨A8, k8, rfl, _⟩ := ho8.sl.len
     have hlo : ∀ i, (Value.slice A8 (rList 32 rTx l (ts l st)).1.length k8).ownBlock = some i → (w3).heap.size ≤ i ∧ i < (w4).heap.size := fun i hi => ⟨ow_base ho8 hi, ho8.lt hi⟩
     have ho8 := ho8.mono (by omega : w0.heap.size + 1 ≤ _)
     have hR2' : RdAt base w4 b v l (m1 l st).1 (m1 l st).2 := hR2
     refine L_nil ?_
     refine heldK (by exact ⟨Bk.au, Bk.au⟩) (fun hS => ?_)
     refine D_ev2 6 10 (by kernel_rfl) rfl rfl ?_ ?_
     ·
      refine L_call (.plain rfl) rfl rfl (r_call Tryz.func87 rfl rfl rfl (by rfl)) (rd_text base b v l (m1 l st) _ (hR2'.nw Ch.au) (hGc _ Ch.au).tab (by omega)) ?_
      rintro v10 w5 ⟨rfl, hR3, c5⟩
      have hz5 := c5.size
      refine L_nil ?_
      refine heldK (by exact ⟨Bk.au, Bk.au⟩) (fun hS => ?_)
      refine D_ev2 8 10 (by kernel_rfl) rfl rfl ?_ ?_
      ·
       refine L_call (.plain rfl) rfl rfl (r_call Tryz.func89 rfl rfl rfl (by rfl)) (rd_flagk base b v l (m2 l st) _ (hR3.nw Ch.au) (by omega)) ?_
       rintro v12 w6 ⟨rfl, hR4, c6⟩
       have hz6 := c6.size
       refine L_nil ?_
       refine heldK (by exact ⟨Bk.au, Bk.au⟩) (fun hS => ?_)
       refine D_t 9 rfl (fun W hW => r_build1 (pl := [(0, 1), (1, 1), (2, 1), (3, 1), (4, 1), (5, 1), (6, 1)]) (vs := [(0, .string _), (1, .slice _ _ _), (2, .string _), (3, .bool _)]) (cells := [_, _, _, _, _, _, _]) Tryz.underlying43 rfl rfl (by rfl) rfl (by rfl)) ?_
       refine D_ev 10 (by kernel_rfl) rfl ?_
       refine L_new (.plain rfl) rfl rfl (r_alloca rfl) (fun w7 b3 hb3 eb7 hs7 c7 => (L_nil ?_))
       refine heldK (by exact ⟨Bk.au, Bk.au⟩) (fun hS => ?_)
       refine D_ev 11 (by kernel_rfl) rfl ?_
       refine L_storerow (.plain rfl) rfl rfl Bk.au (by first | rfl | (simp; done) | assumption) (by first | rfl | assumption) (by first | rfl | (simp [Value.oneCell']; done) | assumption) (fun w8 hb8 hs8 c8 => (L_nil ?_))
       refine heldL ?_
       refine D_done (by kernel_rfl) ?_
       refine ⟨⟨fx2, fx2, fx2, trivial⟩, b3, .slice A8 (rList 32 rTx l (ts l st)).1.length k8, rfl, ?_⟩
       exact ⟨Bk.au, by omega, by omega, Bk.au, Ow.au, hR4.chg (X := fun j => j = b3) Ch.au (by omega) (fun j hj e => by have := hvl j hj; omega), Ch.au⟩
      ·
       refine L_new (.plain rfl) rfl rfl (r_alloca rfl) (fun w9 b3 hb3 eb9 hs9 c9 => (L_nil ?_))
       refine heldK (by exact ⟨Bk.au, Bk.au⟩) (fun hS => ?_)
       refine D_ev 8 (by kernel_rfl) rfl ?_
       refine L_call (.plain rfl) rfl rfl (r_call Tryz.func89 rfl rfl rfl (by rfl)) (rd_flagk base b v l (m2 l st) _ (hR3.nw Ch.au) (by omega)) ?_
       rintro v12 w10 ⟨rfl, hR4, c10⟩
       have hz10 := c10.size
       refine L_nil ?_
       refine heldK (by exact ⟨Bk.au, Bk.au⟩) (fun hS => ?_)
       refine D_t 9 rfl (fun W hW => r_build1 (pl := [(0, 1), (1, 1), (2, 1), (3, 1), (4, 1), (5, 1), (6, 1)]) (vs := [(0, .string _), (1, .slice _ _ _), (2, .string _), (3, .bool _)]) (cells := [_, _, _, _, _, _, _]) Tryz.underlying43 rfl rfl (by rfl) rfl (by rfl)) ?_
       refine D_ev 11 (by kernel_rfl) rfl ?_
       refine L_storerow (.plain rfl) rfl rfl Bk.au (by first | rfl | (simp; done) | assumption) (by first | rfl | assumption) (by first | rfl | (simp [Value.oneCell']; done) | assumption) (fun w11 hb11 hs11 c11 => (L_nil ?_))
       refine heldL ?_
       refine D_done (by kernel_rfl) ?_
       refine ⟨⟨fx2, fx2, fx2, trivial⟩, b3, .slice A8 (rList 32 rTx l (ts l st)).1.length k8, rfl, ?_⟩
       exact ⟨Bk.au, by omega, by omega, Bk.au, Ow.au, hR4.chg (X := fun j => j = b3) Ch.au (by omega) (fun j hj e => by have := hvl j hj; omega), Ch.au⟩
     ·
      refine L_new (.plain rfl) rfl rfl (r_alloca rfl) (fun w12 b3 hb3 eb12 hs12 c12 => (L_nil ?_))
      refine heldK (by exact ⟨Bk.au, Bk.au⟩) (fun hS => ?_)
      refine D_ev 6 (by kernel_rfl) rfl ?_
      refine L_call (.plain rfl) rfl rfl (r_call Tryz.func87 rfl rfl rfl (by rfl)) (rd_text base b v l (m1 l st) _ (hR2'.nw Ch.au) (hGc _ Ch.au).tab (by omega)) ?_
      rintro v10 w13 ⟨rfl, hR3, c13⟩
      have hz13 := c13.size
      refine L_nil ?_
      refine heldK (by exact ⟨Bk.au, Bk.au⟩) (fun hS => ?_)
      refine D_ev 8 (by kernel_rfl) rfl ?_
      refine L_call (.plain rfl) rfl rfl (r_call Tryz.func89 rfl rfl rfl (by rfl)) (rd_flagk base b v l (m2 l st) _ (hR3.nw Ch.au) (by omega)) ?_
      rintro v12 w14 ⟨rfl, hR4, c14⟩
      have hz14 := c14.size
      refine L_nil ?_
      refine heldK (by exact ⟨Bk.au, Bk.au⟩) (fun hS => ?_)
      refine D_t 9 rfl (fun W hW => r_build1 (pl := [(0, 1), (1, 1), (2, 1), (3, 1), (4, 1), (5, 1), (6, 1)]) (vs := [(0, .string _), (1, .slice _ _ _), (2, .string _), (3, .bool _)]) (cells := [_, _, _, _, _, _, _]) Tryz.underlying43 rfl rfl (by rfl) rfl (by rfl)) ?_
      refine D_ev 11 (by kernel_rfl) rfl ?_
      refine L_storerow (.plain rfl) rfl rfl Bk.au (by first | rfl | (simp; done) | assumption) (by first | rfl | assumption) (by first | rfl | (simp [Value.oneCell']; done) | assumption) (fun w15 hb15 hs15 c15 => (L_nil ?_))
      refine heldL ?_
      refine D_done (by kernel_rfl) ?_
      refine ⟨⟨fx2, fx2, fx2, trivial⟩, b3, .slice A8 (rList 32 rTx l (ts l st)).1.length k8, rfl, ?_⟩
      exact ⟨Bk.au, by omega, by omega, Bk.au, Ow.au, hR4.chg (X := fun j => j = b3) Ch.au (by omega) (fun j hj e => by have := hvl j hj; omega), Ch.au⟩
    ·
     refine L_new (.plain rfl) rfl rfl (r_alloca rfl) (fun w16 b3 hb3 eb16 hs16 c16 => (L_nil ?_))
     refine heldK (by exact ⟨Bk.au, Bk.au⟩) (fun hS => ?_)
     refine D_ev 4 (by kernel_rfl) rfl ?_
     refine L_call (.plain rfl) rfl rfl (r_call Tryz.func88 rfl rfl rfl (by rfl)) (read_S base b v l (ts l st) 32 87 [.pointer (some ⟨b, 0, none⟩)] [] rTx _ (hR1.nw Ch.au) (by omega) (by omega) (by omega) ⟨_, _, Tryz.func87, rfl, rfl⟩ (fun W st' c hR' => rd_text base b v l st' W hR' (hGc W Ch.au).tab (by have := c.size; omega))) ?_
     rintro v8 w17 ⟨ho8, hR2, c17⟩
     have hz17 := c17.size
     obtain ⟨A8, k8, rfl, _⟩ := ho8.sl.len
     have hlo : ∀ i, (Value.slice A8 (rList 32 rTx l (ts l st)).1.length k8).ownBlock = some i → (w16).heap.size ≤ i ∧ i < (w17).heap.size := fun i hi => ⟨ow_base ho8 hi, ho8.lt hi⟩
     have ho8 := ho8.mono (by omega : w0.heap.size + 1 ≤ _)
     have hR2' : RdAt base w17 b v l (m1 l st).1 (m1 l st).2 := hR2
     refine L_nil ?_
     refine heldK (by exact ⟨Bk.au, Bk.au⟩) (fun hS => ?_)
     refine D_ev 6 (by kernel_rfl) rfl ?_
     refine L_call (.plain rfl) rfl rfl (r_call Tryz.func87 rfl rfl rfl (by rfl)) (rd_text base b v l (m1 l st) _ (hR2'.nw Ch.au) (hGc _ Ch.au).tab (by omega)) ?_
     rintro v10 w18 ⟨rfl, hR3, c18⟩
     have hz18 := c18.size
     refine L_nil ?_
     refine heldK (by exact ⟨Bk.au, Bk.au⟩) (fun hS => ?_)
     refine D_ev 8 (by kernel_rfl) rfl ?_
     refine L_call (.plain rfl) rfl rfl (r_call Tryz.func89 rfl rfl rfl (by rfl)) (rd_flagk base b v l (m2 l st) _ (hR3.nw Ch.au) (by omega)) ?_
     rintro v12 w19 ⟨rfl, hR4, c19⟩
     have hz19 := c19.size
     refine L_nil ?_
     refine heldK (by exact ⟨Bk.au, Bk.au⟩) (fun hS => ?_)
     refine D_t 9 rfl (fun W hW => r_build1 (pl := [(0, 1), (1, 1), (2, 1), (3, 1), (4, 1), (5, 1), (6, 1)]) (vs := [(0, .string _), (1, .slice _ _ _), (2, .string _), (3, .bool _)]) (cells := [_, _, _, _, _, _, _]) Tryz.underlying43 rfl rfl (by rfl) rfl (by rfl)) ?_
     refine D_ev 11 (by kernel_rfl) rfl ?_
     refine L_storerow (.plain rfl) rfl rfl Bk.au (by first | rfl | (simp; done) | assumption) (by first | rfl | assumption) (by first | rfl | (simp [Value.oneCell']; done) | assumption) (fun w20 hb20 hs20 c20 => (L_nil ?_))
     refine heldL ?_
     refine D_done (by kernel_rfl) ?_
     refine ⟨⟨fx2, fx2, fx2, trivial⟩, b3, .slice A8 (rList 32 rTx l (ts l st)).1.length k8, rfl, ?_⟩
     exact ⟨Bk.au, by omega, by omega, Bk.au, Ow.au, hR4.chg (X := fun j => j = b3) Ch.au (by omega) (fun j hj e => by have := hvl j hj; omega), Ch.au⟩
   ·
    refine L_new (.plain rfl) rfl rfl (r_alloca rfl) (fun w21 b3 hb3 eb21 hs21 c21 => (L_nil ?_))
    refine heldK (by exact ⟨Bk.au, Bk.au⟩) (fun hS => ?_)
    refine D_ev 1 (by kernel_rfl) rfl ?_
    refine L_call (.plain rfl) rfl rfl (r_call Tryz.func87 rfl rfl rfl (by rfl)) (rd_text base b v l st _ (hR.nw Ch.au) (hGc _ Ch.au).tab (by omega)) ?_
    rintro v5 w22 ⟨rfl, hR1, c22⟩
    have hz22 := c22.size
    refine L_nil ?_
    refine heldK (by exact ⟨Bk.au, Bk.au⟩) (fun hS => ?_)
    refine D_ev 4 (by kernel_rfl) rfl ?_
    refine L_call (.plain rfl) rfl rfl (r_call Tryz.func88 rfl rfl rfl (by rfl)) (read_S base b v l (ts l st) 32 87 [.pointer (some ⟨b, 0, none⟩)] [] rTx _ (hR1.nw Ch.au) (by omega) (by omega) (by omega) ⟨_, _, Tryz.func87, rfl, rfl⟩ (fun W st' c hR' => rd_text base b v l st' W hR' (hGc W Ch.au).tab (by have := c.size; omega))) ?_
    rintro v8 w23 ⟨ho8, hR2, c23⟩
    have hz23 := c23.size
    obtain ⟨A8, k8, rfl, _⟩ := ho8.sl.len
    have hlo : ∀ i, (Value.slice A8 (rList 32 rTx l (ts l st)).1.length k8).ownBlock = some i → (w22).heap.size ≤ i ∧ i < (w23).heap.size := fun i hi => ⟨ow_base ho8 hi, ho8.lt hi⟩
    have ho8 := ho8.mono (by omega : w0.heap.size + 1 ≤ _)
    have hR2' : RdAt base w23 b v l (m1 l st).1 (m1 l st).2 := hR2
    refine L_nil ?_
    refine heldK (by exact ⟨Bk.au, Bk.au⟩) (fun hS => ?_)
    refine D_ev 6 (by kernel_rfl) rfl ?_
    refine L_call (.plain rfl) rfl rfl (r_call Tryz.func87 rfl rfl rfl (by rfl)) (rd_text base b v l (m1 l st) _ (hR2'.nw Ch.au) (hGc _ Ch.au).tab (by omega)) ?_
    rintro v10 w24 ⟨rfl, hR3, c24⟩
    have hz24 := c24.size
    refine L_nil ?_
    refine heldK (by exact ⟨Bk.au, Bk.au⟩) (fun hS => ?_)
    refine D_ev 8 (by kernel_rfl) rfl ?_
    refine L_call (.plain rfl) rfl rfl (r_call Tryz.func89 rfl rfl rfl (by rfl)) (rd_flagk base b v l (m2 l st) _ (hR3.nw Ch.au) (by omega)) ?_
    rintro v12 w25 ⟨rfl, hR4, c25⟩
    have hz25 := c25.size
    refine L_nil ?_
    refine heldK (by exact ⟨Bk.au, Bk.au⟩) (fun hS => ?_)
    refine D_t 9 rfl (fun W hW => r_build1 (pl := [(0, 1), (1, 1), (2, 1), (3, 1), (4, 1), (5, 1), (6, 1)]) (vs := [(0, .string _), (1, .slice _ _ _), (2, .string _), (3, .bool _)]) (cells := [_, _, _, _, _, _, _]) Tryz.underlying43 rfl rfl (by rfl) rfl (by rfl)) ?_
    refine D_ev 11 (by kernel_rfl) rfl ?_
    refine L_storerow (.plain rfl) rfl rfl Bk.au (by first | rfl | (simp; done) | assumption) (by first | rfl | assumption) (by first | rfl | (simp [Value.oneCell']; done) | assumption) (fun w26 hb26 hs26 c26 => (L_nil ?_))
    refine heldL ?_
    refine D_done (by kernel_rfl) ?_
    refine ⟨⟨fx2, fx2, fx2, trivial⟩, b3, .slice A8 (rList 32 rTx l (ts l st)).1.length k8, rfl, ?_⟩
    exact ⟨Bk.au, by omega, by omega, Bk.au, Ow.au, hR4.chg (X := fun j => j = b3) Ch.au (by omega) (fun j hj e => by have := hvl j hj; omega), Ch.au⟩
  rintro gcr1 w27 ⟨p3, vp, hf3, hCr1⟩
  refine W_as 3 hf3 rfl ?_
  clear hf3
  obtain ⟨hb3, hp3, hp3n, hb2z, hvp, hR4, hch4⟩ := hCr1
  have hz4 := hch4.size
  have hp3l := hb3.lt
  have hn8 := ow_nb hvp hb3 (by decide)
  obtain ⟨A8, k8, rfl, _⟩ := hvp.sl.len
  refine W_seq (W_seq (W_region ?_))
  refine L_r (r_fieldb Tryz.underlying43 rfl (show _ = some 1 from rfl) rfl rfl (show _ = 3 from rfl)) (L_r (r_lb rfl rfl) (L_r (r_not rfl) (L_nil ?_)))
  refine W_bool rfl (fun h16 => ?_) (fun h16 => ?_)
  ·
   have hfg : fg l (m2 l st) = false := by simpa using h16
   refine W_seq (W_region (L_r (r_lb rfl rfl) ?_))
   refine L_call (.plain rfl) rfl rfl (r_call Tryz.func94 rfl rfl rfl (by rfl)) (csmall_walk base b v l (m3 l st) _ (hR4.nw Ch.au) (by omega)) ?_
   rintro v18 w28 ⟨rfl, hR5, c28⟩
   have hz28 := c28.size
   refine L_r (r_fieldb Tryz.underlying43 rfl (show _ = some 1 from rfl) rfl rfl (show _ = 4 from rfl)) ?_
   refine L_set (.plain rfl) rfl Bk.au (r_store (v := .int _ _) rfl rfl rfl rfl Bk.au (by first | decide | (simp; done) | omega)) (fun w29 hb29 hs29 c29 => ?_)
   try simp only [List.setIfInBounds_toArray, List.set_cons_zero, List.set_cons_succ] at hb29
   have hR5s : RdAt base w29 b v l (m4 l st).1 (m4 l st).2 := hR5.chg (X := fun j => j = p3) Ch.au (by omega) (fun j hj e => by have := hvl j hj; omega)
   refine L_nil (W_seq (W_region (L_r (r_lb rfl rfl) ?_)))
   refine L_call (.plain rfl) rfl rfl (r_call Tryz.func95 rfl rfl rfl (by rfl)) (itake_walk base b v l (m4 l st).1 (m4 l st).2 _ (hGc _ Ch.au) (hR5s.nw Ch.au) (by omega)) ?_
   rintro v21 w30 ⟨v21x, rfl, ho21, hR6, c30⟩
   have hz30 := c30.size
   have hn21 : v21.ownBlock ≠ some p3 := fun e => by have := ow_base ho21 e; omega
   have ho21 := ho21.mono (by omega : w0.heap.size + 1 ≤ _)
   have hR6' : RdAt base w30 b v l (m5 l st).1 (m5 l st).2 := hR6
   refine L_r (r_fieldb Tryz.underlying43 rfl (show _ = some 1 from rfl) rfl rfl (show _ = 5 from rfl)) ?_
   refine L_set (.plain rfl) rfl Bk.au (r_store rfl rfl (by conv => lhs; whnf) (by first | rfl | exact ow_one (by assumption) | exact own_one (by assumption) | exact sl_one (by assumption)) Bk.au (by first | decide | (simp; done) | omega)) (fun w31 hb31 hs31 c31 => ?_)
   try simp only [List.setIfInBounds_toArray, List.set_cons_zero, List.set_cons_succ] at hb31
   have hR6s := hR6'.chg (w' := w31) (X := fun j => j = p3) Ch.au (by omega) (fun j hj e => by have := hvl j hj; omega)
   refine L_nil (W_region (L_r (r_lb rfl rfl) ?_))
   refine L_r (r_funcL (l1 := []) (l2 := [.pointer _, .pointer _]) rfl rfl) ?_
   refine L_call (.plain rfl) rfl rfl (r_call Tryz.func96 rfl rfl rfl (by rfl)) (read_K base b v l (m5 l st) 32 97 [] [.pointer (some ⟨p, 0, none⟩), .pointer (some ⟨q, 0, none⟩)] rCat _ (hR6s.nw Ch.au) (by omega) (by omega) (by omega) ⟨_, _, Tryz.func97, rfl, rfl⟩ (fun W st' c hR' => tkk_walk base b p q v l st' W hR' (hGc W Ch.au).tab (by have := c.size; omega) Bk.au Bk.au)) ?_
   rintro v25 w32 ⟨ho25, hR7, c32⟩
   have hz32 := c32.size
   have hn25 : v25.ownBlock ≠ some p3 := fun e => by have := ow_base ho25 e; omega
   have ho25 := ho25.mono (by omega : w0.heap.size + 1 ≤ _)
   refine L_r (r_fieldb Tryz.underlying43 rfl (show _ = some 1 from rfl) rfl rfl (show _ = 6 from rfl)) ?_
   refine L_set (.plain rfl) rfl Bk.au (r_store rfl rfl (by conv => lhs; whnf) (by first | rfl | exact ow_one (by assumption) | exact own_one (by assumption) | exact sl_one (by assumption)) Bk.au (by first | decide | (simp; done) | omega)) (fun w33 hb33 hs33 c33 => ?_)
   try simp only [List.setIfInBounds_toArray, List.set_cons_zero, List.set_cons_succ] at hb33
   have hR7s := hR7.chg (w' := w33) (X := fun j => j = p3) Ch.au (by omega) (fun j hj e => by have := hvl j hj; omega)
   have hyo : MM.own (w0.heap.size + 1) w33 ⟨⟨sb (tx l st), (rList 32 rTx l (ts l st)).1, sb (tx l (m1 l st)), fg l (m2 l st), sm l (m3 l st), takeL l (m4 l st), (rList 32 rCat l (m5 l st)).1⟩, .slice A8 (rList 32 rTx l (ts l st)).1.length k8, v21, v25⟩ := ⟨Ow.au, Ow.au, Ow.au⟩
   have hy1 := hyo.ok.one
   refine L_nil (W_seq (W_region ?_))
   refine L_r (r_loadrow Tryz.underlying43 rfl rfl Bk.au (by first | rfl | assumption)) ?_
   refine L_storerow (.plain rfl) rfl rfl Bk.au (by first | rfl | (simp; done) | assumption) (by first | rfl | assumption) (by first | rfl | (simp [Value.oneCell']; done) | assumption) (fun w34 hb34 hs34 c34 => (L_nil (W_ret ?_)))
   refine r_ret_row rfl rfl Tryz.underlying43 rfl Bk.au (by first | rfl | assumption) ?_
   first
   | (have e : rMth l st = (⟨sb (tx l st), (rList 32 rTx l (ts l st)).1, sb (tx l (m1 l st)), fg l (m2 l st), sm l (m3 l st), takeL l (m4 l st), (rList 32 rCat l (m5 l st)).1⟩, (rList 32 rCat l (m5 l st)).2) := by unfold rMth; rw [if_neg (by rw [hfg]; decide), hfg]
      rw [e]
      exact ⟨⟨⟨sb (tx l st), (rList 32 rTx l (ts l st)).1, sb (tx l (m1 l st)), fg l (m2 l st), sm l (m3 l st), takeL l (m4 l st), (rList 32 rCat l (m5 l st)).1⟩, .slice A8 (rList 32 rTx l (ts l st)).1.length k8, v21, v25⟩, rfl, rfl, (hyo.lo (b := b2) Ch.au (by omega)).mono (by omega), hR7s.chg (X := fun j => j = b2) Ch.au (by omega) (fun j hj e => by have := hvl j hj; omega), Ch.au⟩)
   | (have e : rMth l st = (⟨sb (tx l st), (rList 32 rTx l (ts l st)).1, sb (tx l (m1 l st)), fg l (m2 l st), 0, [], []⟩, m3 l st) := by unfold rMth; rw [if_pos hfg, hfg]
      rw [e]
      exact ⟨⟨⟨sb (tx l st), (rList 32 rTx l (ts l st)).1, sb (tx l (m1 l st)), fg l (m2 l st), 0, [], []⟩, .slice A8 (rList 32 rTx l (ts l st)).1.length k8, .slice none 0 0, .slice none 0 0⟩, rfl, rfl, (hyo.lo (b := b2) Ch.au (by omega)).mono (by omega), hR4.chg (X := fun j => j = b2) Ch.au (by omega) (fun j hj e => by have := hvl j hj; omega), Ch.au⟩)
  ·
   have hfg : fg l (m2 l st) = true := by simpa using h16
   have hyo : MM.own (w0.heap.size + 1) w27 ⟨⟨sb (tx l st), (rList 32 rTx l (ts l st)).1, sb (tx l (m1 l st)), fg l (m2 l st), 0, [], []⟩, .slice A8 (rList 32 rTx l (ts l st)).1.length k8, .slice none 0 0, .slice none 0 0⟩ := ⟨Ow.au, Ow.nil _ _ _ _, Ow.nil _ _ _ _⟩
   have hy1 := hyo.ok.one
   refine W_skip (W_seq (W_region ?_))
   refine L_r (r_loadrow Tryz.underlying43 rfl rfl Bk.au (by first | rfl | assumption)) ?_
   refine L_storerow (.plain rfl) rfl rfl Bk.au (by first | rfl | (simp; done) | assumption) (by first | rfl | assumption) (by first | rfl | (simp [Value.oneCell']; done) | assumption) (fun w35 hb35 hs35 c35 => (L_nil (W_ret ?_)))
   refine r_ret_row rfl rfl Tryz.underlying43 rfl Bk.au (by first | rfl | assumption) ?_
   first
   | (have e : rMth l st = (⟨sb (tx l st), (rList 32 rTx l (ts l st)).1, sb (tx l (m1 l st)), fg l (m2 l st), sm l (m3 l st), takeL l (m4 l st), (rList 32 rCat l (m5 l st)).1⟩, (rList 32 rCat l (m5 l st)).2) := by unfold rMth; rw [if_neg (by rw [hfg]; decide), hfg]
      rw [e]
      exact ⟨⟨⟨sb (tx l st), (rList 32 rTx l (ts l st)).1, sb (tx l (m1 l st)), fg l (m2 l st), sm l (m3 l st), takeL l (m4 l st), (rList 32 rCat l (m5 l st)).1⟩, .slice A8 (rList 32 rTx l (ts l st)).1.length k8, v21, v25⟩, rfl, rfl, (hyo.lo (b := b2) Ch.au (by omega)).mono (by omega), hR7s.chg (X := fun j => j = b2) Ch.au (by omega) (fun j hj e => by have := hvl j hj; omega), Ch.au⟩)
   | (have e : rMth l st = (⟨sb (tx l st), (rList 32 rTx l (ts l st)).1, sb (tx l (m1 l st)), fg l (m2 l st), 0, [], []⟩, m3 l st) := by unfold rMth; rw [if_pos hfg, hfg]
      rw [e]
      exact ⟨⟨⟨sb (tx l st), (rList 32 rTx l (ts l st)).1, sb (tx l (m1 l st)), fg l (m2 l st), 0, [], []⟩, .slice A8 (rList 32 rTx l (ts l st)).1.length k8, .slice none 0 0, .slice none 0 0⟩, rfl, rfl, (hyo.lo (b := b2) Ch.au (by omega)).mono (by omega), hR4.chg (X := fun j => j = b2) Ch.au (by omega) (fun j hj e => by have := hvl j hj; omega), Ch.au⟩)
end Go.Proofs.YthpknpfhpkkheaaGreatDoor

namespace Go.Proofs.YthpknpfhpkkheaaGreatDoor
open Go Go.RowKit
set_option linter.unusedVariables false
set_option linter.unusedSimpArgs false
set_option maxRecDepth 100000
/-- A class whose lists are rows of one's own. -/
structure CC.own (B : Nat) (w : World) (x : CC) : Prop where
  l : Ow w B 9 1 x.vl x.p.like.length (scells x.p.like)
  f : Ow w B 52 3 x.vf x.p.fields.length (cellsCF x.p.fields)
  m : Ow w B 43 7 x.vm x.q.length (cellsCM x.q)
  e : x.q.map MM.m = x.p.ms
  ms : ∀ y ∈ x.q, y.own B w
section
variable {B B' : Nat} {w w' : World} {x : CC}
theorem CC.own.ok (h : x.own B w) : x.ok w := ⟨h.l.sl, h.f.sl, h.m.sl, h.e, fun y hy => (h.ms y hy).ok⟩
theorem CC.own.nw (h : x.own B w) (c : Nw w w') : x.own B w' := ⟨h.l.nw c, h.f.nw c, h.m.nw c, h.e, fun y hy => (h.ms y hy).nw c⟩
theorem CC.own.mono (h : x.own B w) (hb : B' ≤ B) : x.own B' w := ⟨h.l.mono hb, h.f.mono hb, h.m.mono hb, h.e, fun y hy => (h.ms y hy).mono hb⟩
theorem CC.own.lo {b : Nat} (h : x.own B w) (c : Ch (fun j => j = b) w w') (hb : b < B) : x.own B w' :=
  ⟨h.l.gen c fun j hj e => by have := ow_base h.l hj; omega, h.f.gen c fun j hj e => by have := ow_base h.f hj; omega, h.m.gen c fun j hj e => by have := ow_base h.m hj; omega, h.e, fun y hy => (h.ms y hy).lo c hb⟩
theorem CC.own.ap {B2 e sz n : Nat} {v : Value} {xs : List Value} (h : x.own B w) (hO : Ow w B2 e sz v n xs) (c : Ch (fun j => v.ownBlock = some j) w w') (h1 : 9 ≠ e) (h2 : 54 ≠ e) (h3 : 70 ≠ e) (h4 : 52 ≠ e) (h5 : 43 ≠ e) : x.own B w' :=
  ⟨h.l.gen c fun j hj he => ow_apart h.l hO h1 j hj he, h.f.gen c fun j hj he => ow_apart h.f hO h4 j hj he, h.m.gen c fun j hj he => ow_apart h.m hO h5 j hj he, h.e, fun y hy => (h.ms y hy).ap hO c h1 h2 h3⟩
end
abbrev kc1 (l : List UInt8) (st : St) : St := c1 l st
abbrev kc2 (l : List UInt8) (st : St) : St := c2 l st
abbrev kc3 (l : List UInt8) (st : St) : St := c3 l st
abbrev kc4 (l : List UInt8) (st : St) : St := c4 l st
set_option maxHeartbeats 4000000 in
theorem take_walk (base b : Nat) (v : Value) (l : List UInt8) (st : St) (w0 : World) (hR : RdAt base w0 b v l st.1 st.2) (hG : Gv base w0) (hb : base ≤ w0.heap.size) : Does Tryz.prog 34 #[.pointer (some ⟨b, 0, none⟩)] w0 (fun r w' => ∃ x : CC, r = x.v ∧ x.p = (rCls l st).1 ∧ x.own w0.heap.size w' ∧ RdAt base w' b v l (rCls l st).2.1 (rCls l st).2.2 ∧ Ch (fun j => j = b) w0 w') := by
  have hbl := hR.bk.lt
  have hvl : ∀ i, v.ownBlock = some i → i < w0.heap.size := fun i hi => hR.ow.lt hi
  have hGc := fun W (c : Ch (fun j => j = b) w0 W) => hG.ch c hb (fun i (hi : i = b) => by rw [hi]; exact hR.hb)
  refine fn_of (n := 33) (args := [.pointer (some ⟨b, 0, none⟩)]) Tryz.func34 rfl rfl rfl (W_seq (W_region ?_))
  refine L_new (.plain rfl) rfl rfl (r_box1 (v := .pointer _) rfl rfl) (fun w1 b1 hb1 eb1 hs1 c1 => ?_)
  refine L_new (.plain rfl) rfl rfl (r_alloca rfl) (fun w2 b2 hb2 eb2 hs2 c2 => (L_nil (W_seq (W_region (L_r (r_lb rfl rfl) ?_)))))
  refine L_r (r_funcL (l1 := [_]) (l2 := []) rfl rfl) ?_
  refine L_new (.plain rfl) rfl rfl (r_alloc1 rfl rfl) (fun w3 b3 hb3 eb3 hs3 c3 => ?_)
  refine L_set (.plain rfl) rfl Bk.au (r_store rfl rfl (by conv => lhs; whnf) (by first | rfl | exact ow_one (by assumption) | exact own_one (by assumption) | exact sl_one (by assumption)) Bk.au (by first | decide | (simp; done) | omega)) (fun w4 hb4 hs4 c4 => ?_)
  try simp only [List.setIfInBounds_toArray, List.set_cons_zero, List.set_cons_succ] at hb4
  refine L_nil ?_
  refine W_cutF [1, 2, 3] (fun f W => ∃ (p4 : Nat) (vl : Value), f 4 = .pointer (some ⟨p4, 0, none⟩) ∧ (Bk W p4 #[.string (sb (tx l st)), .string (sb (tx l (ts l st))), vl, .bool false, .bool false, .bool false, .slice none 0 0, .slice none 0 0] 26 ∧ w0.heap.size + 3 ≤ p4 ∧ Bk W b2 #[.string ByteArray.empty, .string ByteArray.empty, .slice none 0 0, .bool false, .bool false, .bool false, .slice none 0 0, .slice none 0 0] 26 ∧ Bk W b1 #[.pointer (some ⟨b, 0, none⟩)] 59 ∧ Bk W b3 #[.func (.func 87) #[.pointer (some ⟨b, 0, none⟩)] #[]] 107 ∧ Ow W (w0.heap.size + 3) 9 1 vl (rList 32 rTx l (kc1 l st)).1.length (scells (rList 32 rTx l (kc1 l st)).1) ∧ RdAt base W b v l (kc2 l st).1 (kc2 l st).2 ∧ Ch (fun j => j = b) w0 W)) ?_ ?_
  ·
   refine W_draw (fun W => Bk W b1 #[.pointer (some ⟨b, 0, none⟩)] 59 ∧ Bk W b3 #[.func (.func 87) #[.pointer (some ⟨b, 0, none⟩)] #[]] 107) 9 (m := 10) (by kernel_rfl) rfl (fun w5 c5 hs5 => ?_)
   refine held (by exact ⟨Bk.au, Bk.au⟩) (fun hS => ?_)
   refine D_t 0 rfl (fun W hW => r_loadb rfl rfl (by first | exact hW.1 | exact hW.2) (by first | assumption | (conv => lhs; simp only [List.getElem?_toArray, List.getElem?_cons_succ, List.getElem?_cons_zero]))) ?_
   refine D_t 2 rfl (fun W hW => r_loadb rfl rfl (by first | exact hW.1 | exact hW.2) (by first | assumption | (conv => lhs; simp only [List.getElem?_toArray, List.getElem?_cons_succ, List.getElem?_cons_zero]))) ?_
   refine D_t 4 rfl (fun W hW => r_loadb rfl rfl (by first | exact hW.1 | exact hW.2) (by first | assumption | (conv => lhs; simp only [List.getElem?_toArray, List.getElem?_cons_succ, List.getElem?_cons_zero]))) ?_
   refine D_t 5 rfl (fun W hW => r_loadb rfl rfl (by first | exact hW.1 | exact hW.2) (by first | assumption | (conv => lhs; simp only [List.getElem?_toArray, List.getElem?_cons_succ, List.getElem?_cons_zero]))) ?_
   refine D_ev2 1 8 (by kernel_rfl) rfl rfl ?_ ?_
   ·
    refine L_call (.plain rfl) rfl rfl (r_call Tryz.func87 rfl rfl rfl (by rfl)) (rd_text base b v l st _ (hR.nw Ch.au) (hGc _ Ch.au).tab (by omega)) ?_
    rintro v8 w6 ⟨rfl, hR1, c6⟩
    have hz6 := c6.size
    refine L_nil ?_
    refine heldK (by exact ⟨Bk.au, Bk.au⟩) (fun hS => ?_)
    refine D_ev2 3 8 (by kernel_rfl) rfl rfl ?_ ?_
    ·
     refine L_call (.plain rfl) rfl rfl (r_call Tryz.func87 rfl rfl rfl (by rfl)) (rd_text base b v l (ts l st) _ (hR1.nw Ch.au) (hGc _ Ch.au).tab (by omega)) ?_
     rintro v10 w7 ⟨rfl, hR2, c7⟩
     have hz7 := c7.size
     refine L_nil ?_
     refine heldK (by exact ⟨Bk.au, Bk.au⟩) (fun hS => ?_)
     refine D_ev2 6 8 (by kernel_rfl) rfl rfl ?_ ?_
     ·
      refine L_call (.plain rfl) rfl rfl (r_call Tryz.func88 rfl rfl rfl (by rfl)) (read_S base b v l (kc1 l st) 32 87 [.pointer (some ⟨b, 0, none⟩)] [] rTx _ (hR2.nw Ch.au) (by omega) (by omega) (by omega) ⟨_, _, Tryz.func87, rfl, rfl⟩ (fun W st' c hR' => rd_text base b v l st' W hR' (hGc W Ch.au).tab (by have := c.size; omega))) ?_
      rintro v13 w8 ⟨ho13, hR3x, c8⟩
      have hz8 := c8.size
      obtain ⟨A8, k8, rfl, _⟩ := ho13.sl.len
      have hlo : ∀ i, (Value.slice A8 (rList 32 rTx l (kc1 l st)).1.length k8).ownBlock = some i → (w7).heap.size ≤ i ∧ i < (w8).heap.size := fun i hi => ⟨ow_base ho13 hi, ho13.lt hi⟩
      have ho13 := ho13.mono (by omega : w0.heap.size + 3 ≤ _)
      have hR3 : RdAt base w8 b v l (kc2 l st).1 (kc2 l st).2 := hR3x
      refine L_nil ?_
      refine heldK (by exact ⟨Bk.au, Bk.au⟩) (fun hS => ?_)
      refine D_t 7 rfl (fun W hW => r_build1 (pl := [(0, 1), (1, 1), (2, 1), (3, 1), (4, 1), (5, 1), (6, 1), (7, 1)]) (vs := [(0, .string _), (1, .string _), (2, .slice _ _ _)]) (cells := [_, _, _, _, _, _, _, _]) Tryz.underlying26 rfl rfl (by rfl) rfl (by rfl)) ?_
      refine D_ev 8 (by kernel_rfl) rfl ?_
      refine L_new (.plain rfl) rfl rfl (r_alloca rfl) (fun w9 b4 hb4 eb9 hs9 c9 => (L_nil ?_))
      refine heldK (by exact ⟨Bk.au, Bk.au⟩) (fun hS => ?_)
      refine D_ev 9 (by kernel_rfl) rfl ?_
      refine L_storerow (.plain rfl) rfl rfl Bk.au (by first | rfl | (simp; done) | assumption) (by first | rfl | assumption) (by first | rfl | (simp [Value.oneCell']; done) | assumption) (fun w10 hb10 hs10 c10 => (L_nil ?_))
      refine heldL ?_
      refine D_done (by kernel_rfl) ?_
      refine ⟨⟨fx2, fx2, fx2, trivial⟩, b4, .slice A8 (rList 32 rTx l (kc1 l st)).1.length k8, rfl, ?_⟩
      exact ⟨Bk.au, by omega, Bk.au, Bk.au, Bk.au, Ow.au, hR3.chg (X := fun j => j = b4) Ch.au (by omega) (fun j hj e => by have := hvl j hj; omega), Ch.au⟩
     ·
      refine L_new (.plain rfl) rfl rfl (r_alloca rfl) (fun w11 b4 hb4 eb11 hs11 c11 => (L_nil ?_))
      refine heldK (by exact ⟨Bk.au, Bk.au⟩) (fun hS => ?_)
      refine D_ev 6 (by kernel_rfl) rfl ?_
      refine L_call (.plain rfl) rfl rfl (r_call Tryz.func88 rfl rfl rfl (by rfl)) (read_S base b v l (kc1 l st) 32 87 [.pointer (some ⟨b, 0, none⟩)] [] rTx _ (hR2.nw Ch.au) (by omega) (by omega) (by omega) ⟨_, _, Tryz.func87, rfl, rfl⟩ (fun W st' c hR' => rd_text base b v l st' W hR' (hGc W Ch.au).tab (by have := c.size; omega))) ?_
      rintro v13 w12 ⟨ho13, hR3x, c12⟩
      have hz12 := c12.size
      obtain ⟨A8, k8, rfl, _⟩ := ho13.sl.len
      have hlo : ∀ i, (Value.slice A8 (rList 32 rTx l (kc1 l st)).1.length k8).ownBlock = some i → (w11).heap.size ≤ i ∧ i < (w12).heap.size := fun i hi => ⟨ow_base ho13 hi, ho13.lt hi⟩
      have ho13 := ho13.mono (by omega : w0.heap.size + 3 ≤ _)
      have hR3 : RdAt base w12 b v l (kc2 l st).1 (kc2 l st).2 := hR3x
      refine L_nil ?_
      refine heldK (by exact ⟨Bk.au, Bk.au⟩) (fun hS => ?_)
      refine D_t 7 rfl (fun W hW => r_build1 (pl := [(0, 1), (1, 1), (2, 1), (3, 1), (4, 1), (5, 1), (6, 1), (7, 1)]) (vs := [(0, .string _), (1, .string _), (2, .slice _ _ _)]) (cells := [_, _, _, _, _, _, _, _]) Tryz.underlying26 rfl rfl (by rfl) rfl (by rfl)) ?_
      refine D_ev 9 (by kernel_rfl) rfl ?_
      refine L_storerow (.plain rfl) rfl rfl Bk.au (by first | rfl | (simp; done) | assumption) (by first | rfl | assumption) (by first | rfl | (simp [Value.oneCell']; done) | assumption) (fun w13 hb13 hs13 c13 => (L_nil ?_))
      refine heldL ?_
      refine D_done (by kernel_rfl) ?_
      refine ⟨⟨fx2, fx2, fx2, trivial⟩, b4, .slice A8 (rList 32 rTx l (kc1 l st)).1.length k8, rfl, ?_⟩
      exact ⟨Bk.au, by omega, Bk.au, Bk.au, Bk.au, Ow.au, hR3.chg (X := fun j => j = b4) Ch.au (by omega) (fun j hj e => by have := hvl j hj; omega), Ch.au⟩
    ·
     refine L_new (.plain rfl) rfl rfl (r_alloca rfl) (fun w14 b4 hb4 eb14 hs14 c14 => (L_nil ?_))
     refine heldK (by exact ⟨Bk.au, Bk.au⟩) (fun hS => ?_)
     refine D_ev 3 (by kernel_rfl) rfl ?_
     refine L_call (.plain rfl) rfl rfl (r_call Tryz.func87 rfl rfl rfl (by rfl)) (rd_text base b v l (ts l st) _ (hR1.nw Ch.au) (hGc _ Ch.au).tab (by omega)) ?_
     rintro v10 w15 ⟨rfl, hR2, c15⟩
     have hz15 := c15.size
     refine L_nil ?_
     refine heldK (by exact ⟨Bk.au, Bk.au⟩) (fun hS => ?_)
     refine D_ev 6 (by kernel_rfl) rfl ?_
     refine L_call (.plain rfl) rfl rfl (r_call Tryz.func88 rfl rfl rfl (by rfl)) (read_S base b v l (kc1 l st) 32 87 [.pointer (some ⟨b, 0, none⟩)] [] rTx _ (hR2.nw Ch.au) (by omega) (by omega) (by omega) ⟨_, _, Tryz.func87, rfl, rfl⟩ (fun W st' c hR' => rd_text base b v l st' W hR' (hGc W Ch.au).tab (by have := c.size; omega))) ?_
     rintro v13 w16 ⟨ho13, hR3x, c16⟩
     have hz16 := c16.size
     obtain ⟨A8, k8, rfl, _⟩ := ho13.sl.len
     have hlo : ∀ i, (Value.slice A8 (rList 32 rTx l (kc1 l st)).1.length k8).ownBlock = some i → (w15).heap.size ≤ i ∧ i < (w16).heap.size := fun i hi => ⟨ow_base ho13 hi, ho13.lt hi⟩
     have ho13 := ho13.mono (by omega : w0.heap.size + 3 ≤ _)
     have hR3 : RdAt base w16 b v l (kc2 l st).1 (kc2 l st).2 := hR3x
     refine L_nil ?_
     refine heldK (by exact ⟨Bk.au, Bk.au⟩) (fun hS => ?_)
     refine D_t 7 rfl (fun W hW => r_build1 (pl := [(0, 1), (1, 1), (2, 1), (3, 1), (4, 1), (5, 1), (6, 1), (7, 1)]) (vs := [(0, .string _), (1, .string _), (2, .slice _ _ _)]) (cells := [_, _, _, _, _, _, _, _]) Tryz.underlying26 rfl rfl (by rfl) rfl (by rfl)) ?_
     refine D_ev 9 (by kernel_rfl) rfl ?_
     refine L_storerow (.plain rfl) rfl rfl Bk.au (by first | rfl | (simp; done) | assumption) (by first | rfl | assumption) (by first | rfl | (simp [Value.oneCell']; done) | assumption) (fun w17 hb17 hs17 c17 => (L_nil ?_))
     refine heldL ?_
     refine D_done (by kernel_rfl) ?_
     refine ⟨⟨fx2, fx2, fx2, trivial⟩, b4, .slice A8 (rList 32 rTx l (kc1 l st)).1.length k8, rfl, ?_⟩
     exact ⟨Bk.au, by omega, Bk.au, Bk.au, Bk.au, Ow.au, hR3.chg (X := fun j => j = b4) Ch.au (by omega) (fun j hj e => by have := hvl j hj; omega), Ch.au⟩
   ·
    refine L_new (.plain rfl) rfl rfl (r_alloca rfl) (fun w18 b4 hb4 eb18 hs18 c18 => (L_nil ?_))
    refine heldK (by exact ⟨Bk.au, Bk.au⟩) (fun hS => ?_)
    refine D_ev 1 (by kernel_rfl) rfl ?_
    refine L_call (.plain rfl) rfl rfl (r_call Tryz.func87 rfl rfl rfl (by rfl)) (rd_text base b v l st _ (hR.nw Ch.au) (hGc _ Ch.au).tab (by omega)) ?_
    rintro v8 w19 ⟨rfl, hR1, c19⟩
    have hz19 := c19.size
    refine L_nil ?_
    refine heldK (by exact ⟨Bk.au, Bk.au⟩) (fun hS => ?_)
    refine D_ev 3 (by kernel_rfl) rfl ?_
    refine L_call (.plain rfl) rfl rfl (r_call Tryz.func87 rfl rfl rfl (by rfl)) (rd_text base b v l (ts l st) _ (hR1.nw Ch.au) (hGc _ Ch.au).tab (by omega)) ?_
    rintro v10 w20 ⟨rfl, hR2, c20⟩
    have hz20 := c20.size
    refine L_nil ?_
    refine heldK (by exact ⟨Bk.au, Bk.au⟩) (fun hS => ?_)
    refine D_ev 6 (by kernel_rfl) rfl ?_
    refine L_call (.plain rfl) rfl rfl (r_call Tryz.func88 rfl rfl rfl (by rfl)) (read_S base b v l (kc1 l st) 32 87 [.pointer (some ⟨b, 0, none⟩)] [] rTx _ (hR2.nw Ch.au) (by omega) (by omega) (by omega) ⟨_, _, Tryz.func87, rfl, rfl⟩ (fun W st' c hR' => rd_text base b v l st' W hR' (hGc W Ch.au).tab (by have := c.size; omega))) ?_
    rintro v13 w21 ⟨ho13, hR3x, c21⟩
    have hz21 := c21.size
    obtain ⟨A8, k8, rfl, _⟩ := ho13.sl.len
    have hlo : ∀ i, (Value.slice A8 (rList 32 rTx l (kc1 l st)).1.length k8).ownBlock = some i → (w20).heap.size ≤ i ∧ i < (w21).heap.size := fun i hi => ⟨ow_base ho13 hi, ho13.lt hi⟩
    have ho13 := ho13.mono (by omega : w0.heap.size + 3 ≤ _)
    have hR3 : RdAt base w21 b v l (kc2 l st).1 (kc2 l st).2 := hR3x
    refine L_nil ?_
    refine heldK (by exact ⟨Bk.au, Bk.au⟩) (fun hS => ?_)
    refine D_t 7 rfl (fun W hW => r_build1 (pl := [(0, 1), (1, 1), (2, 1), (3, 1), (4, 1), (5, 1), (6, 1), (7, 1)]) (vs := [(0, .string _), (1, .string _), (2, .slice _ _ _)]) (cells := [_, _, _, _, _, _, _, _]) Tryz.underlying26 rfl rfl (by rfl) rfl (by rfl)) ?_
    refine D_ev 9 (by kernel_rfl) rfl ?_
    refine L_storerow (.plain rfl) rfl rfl Bk.au (by first | rfl | (simp; done) | assumption) (by first | rfl | assumption) (by first | rfl | (simp [Value.oneCell']; done) | assumption) (fun w22 hb22 hs22 c22 => (L_nil ?_))
    refine heldL ?_
    refine D_done (by kernel_rfl) ?_
    refine ⟨⟨fx2, fx2, fx2, trivial⟩, b4, .slice A8 (rList 32 rTx l (kc1 l st)).1.length k8, rfl, ?_⟩
    exact ⟨Bk.au, by omega, Bk.au, Bk.au, Bk.au, Ow.au, hR3.chg (X := fun j => j = b4) Ch.au (by omega) (fun j hj e => by have := hvl j hj; omega), Ch.au⟩
  rintro gcr2 w23 ⟨p4, vl, hf4, hCr2⟩
  refine W_as 4 hf4 rfl ?_
  clear hf4
  obtain ⟨hb4, hp4, hb2z, hb1z, hb3z, hvlo, hR3, hch4⟩ := hCr2
  have hz4 := hch4.size
  have hp4l := hb4.lt
  have hn8 := ow_nb hvlo hb4 (by decide)
  obtain ⟨A8, k8, rfl, _⟩ := hvlo.sl.len
  refine W_seq ?_
  refine W_draw (fun W => Bk W b1 #[.pointer (some ⟨b, 0, none⟩)] 59) 11 (m := 12) (by kernel_rfl) rfl (fun w24 c24 hs24 => ?_)
  refine held Bk.au (fun hS => ?_)
  refine D_t 0 rfl (fun W hW => r_loadb rfl rfl (by exact hW) (by first | assumption | (conv => lhs; simp only [List.getElem?_toArray, List.getElem?_cons_succ, List.getElem?_cons_zero]))) ?_
  refine D_t 2 rfl (fun W hW => r_loadb rfl rfl (by exact hW) (by first | assumption | (conv => lhs; simp only [List.getElem?_toArray, List.getElem?_cons_succ, List.getElem?_cons_zero]))) ?_
  refine D_t 4 rfl (fun W hW => r_loadb rfl rfl (by exact hW) (by first | assumption | (conv => lhs; simp only [List.getElem?_toArray, List.getElem?_cons_succ, List.getElem?_cons_zero]))) ?_
  refine D_ev 1 (by kernel_rfl) rfl ?_
  refine L_call (.plain rfl) rfl rfl (r_call Tryz.func89 rfl rfl rfl (by rfl)) (rd_flagk base b v l (kc2 l st) _ (hR3.nw Ch.au) (by omega)) ?_
  rintro v16 w25 ⟨rfl, hR4, c25⟩
  have hz25 := c25.size
  refine L_nil ?_
  refine heldK Bk.au (fun hS => ?_)
  refine D_t 6 rfl (fun W hW => r_fieldb Tryz.underlying26 rfl (show _ = some 1 from rfl) rfl rfl (show _ = 3 from rfl)) ?_
  refine D_ev 3 (by kernel_rfl) rfl ?_
  refine L_call (.plain rfl) rfl rfl (r_call Tryz.func89 rfl rfl rfl (by rfl)) (rd_flagk base b v l (fs l (kc2 l st)) _ (hR4.nw Ch.au) (by omega)) ?_
  rintro v18 w26 ⟨rfl, hR5, c26⟩
  have hz26 := c26.size
  refine L_nil ?_
  refine heldK Bk.au (fun hS => ?_)
  refine D_ev 5 (by kernel_rfl) rfl ?_
  refine L_call (.plain rfl) rfl rfl (r_call Tryz.func89 rfl rfl rfl (by rfl)) (rd_flagk base b v l (fs l (fs l (kc2 l st))) _ (hR5.nw Ch.au) (by omega)) ?_
  rintro v20 w27 ⟨rfl, hR6, c27⟩
  have hz27 := c27.size
  refine L_nil ?_
  refine heldK Bk.au (fun hS => ?_)
  refine D_ev 7 (by kernel_rfl) rfl ?_
  refine L_set (.plain rfl) rfl Bk.au (r_store (v := .bool _) rfl rfl rfl rfl Bk.au (by first | decide | (simp; done) | omega)) (fun w28 hb28 hs28 c28 => ?_)
  try simp only [List.setIfInBounds_toArray, List.set_cons_zero, List.set_cons_succ] at hb28
  refine L_nil ?_
  refine heldK Bk.au (fun hS => ?_)
  refine D_t 8 rfl (fun W hW => r_fieldb Tryz.underlying26 rfl (show _ = some 1 from rfl) rfl rfl (show _ = 4 from rfl)) ?_
  refine D_ev 9 (by kernel_rfl) rfl ?_
  refine L_set (.plain rfl) rfl Bk.au (r_store (v := .bool _) rfl rfl rfl rfl Bk.au (by first | decide | (simp; done) | omega)) (fun w29 hb29 hs29 c29 => ?_)
  try simp only [List.setIfInBounds_toArray, List.set_cons_zero, List.set_cons_succ] at hb29
  refine L_nil ?_
  refine heldK Bk.au (fun hS => ?_)
  refine D_t 10 rfl (fun W hW => r_fieldb Tryz.underlying26 rfl (show _ = some 1 from rfl) rfl rfl (show _ = 5 from rfl)) ?_
  refine D_ev 11 (by kernel_rfl) rfl ?_
  refine L_set (.plain rfl) rfl Bk.au (r_store (v := .bool _) rfl rfl rfl rfl Bk.au (by first | decide | (simp; done) | omega)) (fun w30 hb30 hs30 c30 => ?_)
  try simp only [List.setIfInBounds_toArray, List.set_cons_zero, List.set_cons_succ] at hb30
  refine L_nil ?_
  refine heldL ?_
  refine D_done (by kernel_rfl) (W_seq ?_)
  have hR6s : RdAt base w30 b v l (kc3 l st).1 (kc3 l st).2 := hR6.chg (X := fun j => j = p4) Ch.au (by omega) (fun j hj e => by have := hvl j hj; omega)
  refine W_region (L_r (r_lb rfl rfl) ?_)
  refine L_r (r_funcL (l1 := []) (l2 := [.pointer _, .pointer _]) rfl rfl) ?_
  refine L_call (.plain rfl) rfl rfl (r_call Tryz.func90 rfl rfl rfl (by rfl)) (read_F base b v l (kc3 l st) 32 91 [] [.pointer (some ⟨b3, 0, none⟩), .pointer (some ⟨b1, 0, none⟩)] rFld _ (hR6s.nw Ch.au) (by omega) (by omega) (by omega) ⟨_, _, Tryz.func91, rfl, rfl⟩ (fun W st' c hR' => tkf_walk base b b1 b3 v l st' W hR' (hGc W Ch.au).tab (by have := c.size; omega) Bk.au Bk.au)) ?_
  rintro v26 w31 ⟨ho26, hR7x, c31⟩
  have hz31 := c31.size
  have hn26 : v26.ownBlock ≠ some p4 := fun e => by have := ow_base ho26 e; omega
  have ho26 := ho26.mono (by omega : w0.heap.size + 3 ≤ _)
  have hR7 : RdAt base w31 b v l (kc4 l st).1 (kc4 l st).2 := hR7x
  refine L_r (r_fieldb Tryz.underlying26 rfl (show _ = some 1 from rfl) rfl rfl (show _ = 6 from rfl)) ?_
  refine L_set (.plain rfl) rfl Bk.au (r_store rfl rfl (by conv => lhs; whnf) (by first | rfl | exact ow_one (by assumption) | exact own_one (by assumption) | exact sl_one (by assumption)) Bk.au (by first | decide | (simp; done) | omega)) (fun w32 hb32 hs32 c32 => ?_)
  try simp only [List.setIfInBounds_toArray, List.set_cons_zero, List.set_cons_succ] at hb32
  have hR7s := hR7.chg (w' := w32) (X := fun j => j = p4) Ch.au (by omega) (fun j hj e => by have := hvl j hj; omega)
  refine L_nil (W_seq (W_region (L_r (r_lb rfl rfl) ?_)))
  refine L_r (r_funcL (l1 := []) (l2 := [.pointer _, .pointer _]) rfl rfl) ?_
  refine L_call (.plain rfl) rfl rfl (r_call Tryz.func92 rfl rfl rfl (by rfl)) (read_M base b v l (kc4 l st) 32 93 [] [.pointer (some ⟨b3, 0, none⟩), .pointer (some ⟨b1, 0, none⟩)] rMth _ (hR7s.nw Ch.au) (by omega) (by omega) (by omega) ⟨_, _, Tryz.func93, rfl, rfl⟩ (fun W st' c hR' => tkm_walk base b b1 b3 v l st' W hR' (hGc W Ch.au) (by have := c.size; omega) Bk.au Bk.au)) ?_
  rintro v30 w33 ⟨q, ho30, hqm, hqo, hR8, c33⟩
  have hz33 := c33.size
  have hn30 : v30.ownBlock ≠ some p4 := fun e => by have := ow_base ho30 e; omega
  have hqo2 : ∀ y ∈ q, y.own (w32).heap.size w33 := hqo
  have hlt4 : p4 < (w32).heap.size := by omega
  have ho30 := ho30.mono (by omega : w0.heap.size + 3 ≤ _)
  have hsz9 : w0.heap.size + 3 ≤ (w32).heap.size := by omega
  refine L_r (r_fieldb Tryz.underlying26 rfl (show _ = some 1 from rfl) rfl rfl (show _ = 7 from rfl)) ?_
  refine L_set (.plain rfl) rfl Bk.au (r_store rfl rfl (by conv => lhs; whnf) (by first | rfl | exact ow_one (by assumption) | exact own_one (by assumption) | exact sl_one (by assumption)) Bk.au (by first | decide | (simp; done) | omega)) (fun w34 hb34 hs34 c34 => ?_)
  try simp only [List.setIfInBounds_toArray, List.set_cons_zero, List.set_cons_succ] at hb34
  have hR8s := hR8.chg (w' := w34) (X := fun j => j = p4) Ch.au (by omega) (fun j hj e => by have := hvl j hj; omega)
  have hqo3 : ∀ y ∈ q, y.own (w0.heap.size + 3) w34 := fun y hy => ((hqo2 y hy).lo (b := p4) Ch.au (by omega)).mono hsz9
  have hyo : CC.own (w0.heap.size + 3) w34 ⟨⟨sb (tx l st), sb (tx l (ts l st)), (rList 32 rTx l (kc1 l st)).1, fg l (kc2 l st), fg l (fs l (kc2 l st)), fg l (fs l (fs l (kc2 l st))), (rList 32 rFld l (kc3 l st)).1, (rList 32 rMth l (kc4 l st)).1⟩, .slice A8 (rList 32 rTx l (kc1 l st)).1.length k8, v26, v30, q⟩ := ⟨Ow.au, Ow.au, Ow.au, hqm, hqo3⟩
  have hy1 := hyo.ok.one
  refine L_nil (W_seq (W_region ?_))
  refine L_r (r_loadrow Tryz.underlying26 rfl rfl Bk.au (by first | rfl | assumption)) ?_
  refine L_storerow (.plain rfl) rfl rfl Bk.au (by first | rfl | (simp; done) | assumption) (by first | rfl | assumption) (by first | rfl | (simp [Value.oneCell']; done) | assumption) (fun w35 hb35 hs35 c35 => (L_nil (W_ret ?_)))
  refine r_ret_row rfl rfl Tryz.underlying26 rfl Bk.au (by first | rfl | assumption) ?_
  exact ⟨⟨⟨sb (tx l st), sb (tx l (ts l st)), (rList 32 rTx l (kc1 l st)).1, fg l (kc2 l st), fg l (fs l (kc2 l st)), fg l (fs l (fs l (kc2 l st))), (rList 32 rFld l (kc3 l st)).1, (rList 32 rMth l (kc4 l st)).1⟩, .slice A8 (rList 32 rTx l (kc1 l st)).1.length k8, v26, v30, q⟩, rfl, rfl, (hyo.lo (b := b2) Ch.au (by omega)).mono (by omega), hR8s.chg (X := fun j => j = b2) Ch.au (by omega) (fun j hj e => by have := hvl j hj; omega), Ch.au⟩
end Go.Proofs.YthpknpfhpkkheaaGreatDoor

namespace Go.Proofs.YthpknpfhpkkheaaGreatDoor
open Go Go.RowKit
set_option linter.unusedVariables false
set_option linter.unusedSimpArgs false
set_option maxRecDepth 100000
theorem rep_all {T : Type} {f : List UInt8 → St → T × St} {l : List UInt8} {C : T → Prop} (hf : ∀ st, C (f l st).1) : ∀ (n : Nat) (st : St), ∀ x ∈ (rep f l n st).1, C x
  | 0, st, x, hx => absurd hx (by simp [rep])
  | n + 1, st, x, hx => by
    have hx' : x ∈ (f l st).1 :: (rep f l n (f l st).2).1 := hx
    rcases List.mem_cons.1 hx' with h | h
    · rw [h]; exact hf st
    · exact rep_all hf n _ x h
theorem rl_all {T : Type} {f : List UInt8 → St → T × St} {l : List UInt8} {C : T → Prop} {most : Int} {st : St} (hf : ∀ st, C (f l st).1) : ∀ x ∈ (rList most f l st).1, C x := rep_all hf _ _
theorem rl_len {T : Type} {f : List UInt8 → St → T × St} {l : List UInt8} {st : St} : (rList 32 f l st).1.length ≤ 32 := by
  unfold rList
  rw [rep_len]
  have := kn_le 32 l st (by decide)
  omega
theorem tx_sz (l : List UInt8) (st : St) : (sb (tx l st)).size ≤ 1000000000000000 := by
  rw [sb_size]
  have := tx_le l st
  omega
theorem takeL_sz (l : List UInt8) (st : St) : (takeL l st).length ≤ 200 ∧ ∀ x ∈ takeL l st, x.s.size ≤ 4096 := by
  unfold takeL
  split
  · exact ⟨Nat.zero_le _, fun x hx => absurd hx (by simp)⟩
  ·
   unfold takeA
   have h1 := takeN_len l ⟨cs l st, true, []⟩ (cn l st)
   have h2 := cn_le l st
   have h3 : (⟨cs l st, true, []⟩ : Tk).out.length = 0 := rfl
   exact ⟨by omega, takeN_sz l ⟨cs l st, true, []⟩ (fun x hx => absurd hx (by simp)) _⟩
theorem rMth_sz (l : List UInt8) (st : St) : (rMth l st).1.sz := by
  have ht := takeL_sz l (m4 l st)
  have hl := @rl_len _ rTx l (ts l st)
  have hk := @rl_len _ rCat l (m5 l st)
  unfold rMth
  split
  · exact ⟨tx_sz _ _, rl_all (C := fun (x : ByteArray) => x.size ≤ 1000000000000000) (fun st => tx_sz l st), tx_sz _ _, fun x hx => absurd hx (by simp), fun x hx => absurd hx (by simp), Nat.le_trans hl (by decide), Nat.zero_le _, Nat.zero_le _⟩
  · exact ⟨tx_sz _ _, rl_all (C := fun (x : ByteArray) => x.size ≤ 1000000000000000) (fun st => tx_sz l st), tx_sz _ _, fun x hx => by have := ht.2 x hx; omega, rl_all (C := fun (x : Cat) => x.cls.size ≤ 1000000000000000) (fun st => tx_sz l _), Nat.le_trans hl (by decide), Nat.le_trans ht.1 (by decide), Nat.le_trans hk (by decide)⟩
theorem rCls_sz (l : List UInt8) (st : St) : (rCls l st).1.sz := by
  have h1 := @rl_len _ rTx l (c1 l st)
  have h2 := @rl_len _ rFld l (c3 l st)
  have h3 := @rl_len _ rMth l (c4 l st)
  exact ⟨tx_sz _ _, tx_sz _ _, rl_all (C := fun (x : ByteArray) => x.size ≤ 1000000000000000) (fun st => tx_sz l st), rl_all (C := fun (f : CF) => f.name.size ≤ 1000000000000000 ∧ f.kind.size ≤ 1000000000000000) (fun st => ⟨tx_sz l _, tx_sz l _⟩), rl_all (C := Mth.sz) (fun st => rMth_sz l st), Nat.le_trans h1 (by decide), Nat.le_trans h2 (by decide), Nat.le_trans h3 (by decide)⟩
/-- Are bytes a class's? -/
def getC (l : List UInt8) : Prop := endE l (rCls l (0, 0)).2 = 0 ∧ checkCls (rCls l (0, 0)).1 = 0
noncomputable instance (l : List UInt8) : Decidable (getC l) := Classical.propDecidable _
def Cls.zero : Cls := ⟨ByteArray.empty, ByteArray.empty, [], false, false, false, [], []⟩
def CC.zero : CC := ⟨Cls.zero, .slice none 0 0, .slice none 0 0, .slice none 0 0, []⟩
theorem CC.zero_own (B : Nat) (w : World) : CC.zero.own B w := ⟨Ow.nil _ _ _ _, Ow.nil _ _ _ _, Ow.nil _ _ _ _, rfl, fun y hy => absurd hy (by simp [CC.zero])⟩
set_option maxHeartbeats 1000000 in
theorem cget_walk (g : Nat) (v : Value) (l : List UInt8) (w0 : World) (hG : Gv g w0) (hb : g ≤ w0.heap.size) (hv : Sl w0 v 1 l.length (l.map b8)) (hl : l.length ≤ 100000000) : Does Tryz.prog 16 #[v] w0 (fun r w' => ∃ x : CC, r = .tuple #[x.v, .int .i64 (if getC l then 0 else 50)] ∧ x.p = (if getC l then (rCls l (0, 0)).1 else Cls.zero) ∧ x.own w0.heap.size w' ∧ Nw w0 w') := by
  refine fn_of (n := 26) (args := [v]) Tryz.func16 rfl rfl rfl (W_seq (W_region ?_))
  refine L_new (.plain rfl) rfl rfl (r_alloca rfl) (fun w1 b2 hb2 eb1 hs1 c1 => (L_r (r_ai rfl) (L_nil (W_seq (W_region (L_r (r_mv) ?_))))))
  refine L_call (.plain rfl) rfl rfl (r_call Tryz.func33 rfl rfl rfl (by rfl)) (read_walk v l _ Sl.au (by omega)) ?_
  rintro v9 w2 ⟨br, vr, rfl, hRd, c2⟩
  have hz2 := c2.size
  have hbr := hRd.hb
  have hRb : RdAt g w2 br vr l 0 0 := hRd.down (by omega)
  refine L_r (r_ap rfl) (L_nil (W_seq (W_region (L_r (r_mp rfl) ?_))))
  refine L_call (.plain rfl) rfl rfl (r_call Tryz.func34 rfl rfl rfl (by rfl)) (take_walk g br vr l (0, 0) _ (hRb.nw Ch.au) (hG.nw Ch.au hb) (by omega)) ?_
  rintro v11 w3 ⟨x, rfl, hxp, hxo, hRt, c3⟩
  have hz3 := c3.size
  have hxo2 := hxo.mono (by omega : w0.heap.size + 1 ≤ _)
  have h1x := hxo2.ok.one
  refine L_new (.plain rfl) rfl rfl (r_alloca rfl) (fun w4 b5 hb5 eb4 hs4 c4 => ?_)
  refine L_storerow (.plain rfl) rfl rfl Bk.au (by first | rfl | (simp; done) | assumption) (by first | rfl | assumption) (by first | rfl | (simp [Value.oneCell']; done) | assumption) (fun w5 hb5 hs5 c5 => (L_nil (W_seq (W_seq (W_region (L_r (r_mp rfl) ?_))))))
  refine L_call (.plain rfl) rfl rfl (r_call Tryz.func35 rfl rfl rfl (by rfl)) (rd_end g br vr l (rCls l (0, 0)).2 _ (hRt.nw Ch.au)) ?_
  rintro v14 w6 ⟨ae, rfl, c6⟩
  have hz6 := c6.size
  have hxo3 := hxo2.nw (Ch.au : Nw _ w6)
  refine L_r (r_mv) (L_r (r_ext2_0 rfl) (L_r (r_ext2_1 rfl) (L_r (r_ai rfl) (L_r (r_ai rfl) (L_nil (W_seq (W_region (L_r (r_mi rfl) ?_))))))))
  refine L_r (r_neq rfl rfl) (L_r (r_mb rfl) ?_)
  refine L_case (d := 19) rfl (fun h19 => ?_) (fun h19 => ?_)
  ·
   refine L_ps (L_ps (L_ps (L_r (r_pt rfl rfl) (L_nil ?_))))
   refine W_true rfl (W_seq (W_region ?_))
   refine L_r (r_build1 (pl := [(0, 1), (1, 1), (2, 1), (3, 1), (4, 1), (5, 1), (6, 1), (7, 1)]) (vs := []) (cells := [_, _, _, _, _, _, _, _]) Tryz.underlying26 rfl rfl (by rfl) rfl (by rfl)) ?_
   refine L_storerow (.plain rfl) rfl rfl Bk.au (by first | rfl | (simp; done) | assumption) (by first | rfl | assumption) (by first | rfl | (simp [Value.oneCell']; done) | assumption) (fun w7 hb7 hs7 c7 => (L_r (r_ai rfl) (L_nil (W_ret ?_))))
   refine r_ret_ct rfl rfl Tryz.underlying26 rfl Bk.au (by first | rfl | assumption) (show _ = (.int _ _ : Value) from rfl) ?_
   have hgc : getC l ↔ endE l (rCls l (0, 0)).2 = 0 ∧ checkCls (rCls l (0, 0)).1 = 0 := Iff.rfl
   by_cases hgi : getC l
   ·
    rw [if_pos hgi, if_pos hgi]
    have hgj := hgc.1 hgi
    first
    | (exfalso; omega)
    | exact ⟨x, rfl, hxp, (CC.own.lo (b := b2) hxo3 Ch.au (by omega)).mono (by omega), Ch.au⟩
   ·
    rw [if_neg hgi, if_neg hgi]
    have hgj := fun k => hgi (hgc.2 k)
    first
    | (exfalso; exact hgj ⟨by omega, by omega⟩)
    | exact ⟨CC.zero, rfl, rfl, CC.zero_own _ _, Ch.au⟩
  ·
   refine L_g (r_loadrow Tryz.underlying26 rfl rfl Bk.au (by first | rfl | assumption)) ?_
   refine L_call (.yes 2 false rfl rfl) rfl rfl (r_call Tryz.func13 rfl rfl rfl (by rfl)) (ccheck_walk g x _ (hG.nw Ch.au hb) (by omega) (hxo3.nw Ch.au).ok (by rw [hxp]; exact rCls_sz _ _)) ?_
   rintro v21 w8 ⟨rfl, c8⟩
   have hz8 := c8.size
   rw [hxp]
   refine L_g (r_neq rfl rfl) (L_r (r_pf rfl rfl) (L_nil ?_))
   refine W_if rfl (fun h23 => ?_) (fun h23 => ?_)
   ·
    refine W_seq (W_region ?_)
    refine L_r (r_build1 (pl := [(0, 1), (1, 1), (2, 1), (3, 1), (4, 1), (5, 1), (6, 1), (7, 1)]) (vs := []) (cells := [_, _, _, _, _, _, _, _]) Tryz.underlying26 rfl rfl (by rfl) rfl (by rfl)) ?_
    refine L_storerow (.plain rfl) rfl rfl Bk.au (by first | rfl | (simp; done) | assumption) (by first | rfl | assumption) (by first | rfl | (simp [Value.oneCell']; done) | assumption) (fun w9 hb9 hs9 c9 => (L_r (r_ai rfl) (L_nil (W_ret ?_))))
    refine r_ret_ct rfl rfl Tryz.underlying26 rfl Bk.au (by first | rfl | assumption) (show _ = (.int _ _ : Value) from rfl) ?_
    have hgc : getC l ↔ endE l (rCls l (0, 0)).2 = 0 ∧ checkCls (rCls l (0, 0)).1 = 0 := Iff.rfl
    by_cases hgi : getC l
    ·
     rw [if_pos hgi, if_pos hgi]
     have hgj := hgc.1 hgi
     first
     | (exfalso; omega)
     | exact ⟨x, rfl, hxp, (CC.own.lo (b := b2) hxo3 Ch.au (by omega)).mono (by omega), Ch.au⟩
    ·
     rw [if_neg hgi, if_neg hgi]
     have hgj := fun k => hgi (hgc.2 k)
     first
     | (exfalso; exact hgj ⟨by omega, by omega⟩)
     | exact ⟨CC.zero, rfl, rfl, CC.zero_own _ _, Ch.au⟩
   ·
    refine W_skip (W_seq (W_region ?_))
    refine L_r (r_loadrow Tryz.underlying26 rfl rfl Bk.au (by first | rfl | assumption)) ?_
    refine L_storerow (.plain rfl) rfl rfl Bk.au (by first | rfl | (simp; done) | assumption) (by first | rfl | assumption) (by first | rfl | (simp [Value.oneCell']; done) | assumption) (fun w10 hb10 hs10 c10 => (L_r (r_ai rfl) (L_nil (W_ret ?_))))
    refine r_ret_ct rfl rfl Tryz.underlying26 rfl Bk.au (by first | rfl | assumption) (show _ = (.int _ _ : Value) from rfl) ?_
    have hgc : getC l ↔ endE l (rCls l (0, 0)).2 = 0 ∧ checkCls (rCls l (0, 0)).1 = 0 := Iff.rfl
    by_cases hgi : getC l
    ·
     rw [if_pos hgi, if_pos hgi]
     have hgj := hgc.1 hgi
     first
     | (exfalso; omega)
     | exact ⟨x, rfl, hxp, (CC.own.lo (b := b2) hxo3 Ch.au (by omega)).mono (by omega), Ch.au⟩
    ·
     rw [if_neg hgi, if_neg hgi]
     have hgj := fun k => hgi (hgc.2 k)
     first
     | (exfalso; exact hgj ⟨by omega, by omega⟩)
     | exact ⟨CC.zero, rfl, rfl, CC.zero_own _ _, Ch.au⟩
end Go.Proofs.YthpknpfhpkkheaaGreatDoor

namespace Go.Proofs.YthpknpfhpkkheaaGreatDoor
open Go Go.RowKit
set_option linter.unusedVariables false
set_option linter.unusedSimpArgs false
set_option maxRecDepth 100000
theorem cls_info : (Tryz.prog.info? 26).map (fun i => (i.zero, i.size, i.bytes)) = some (some (.agg #[.string ByteArray.empty, .string ByteArray.empty, .slice none 0 0, .bool false, .bool false, .bool false, .slice none 0 0, .slice none 0 0]), 8, 112) := rfl
theorem read_C (base b : Nat) (v : Value) (l : List UInt8) (st : St) (most : Int) (fid : Nat) (fst cap : List Value) (rf : List UInt8 → St → Cls × St) (w0 : World) (hR : RdAt base w0 b v l st.1 st.2) (hb : base ≤ w0.heap.size) (h0 : 0 ≤ most) (hm : most ≤ 1000) (hK : Knows Tryz.prog fid) (hcl : ∀ W st', Ch (fun j => j = b) w0 W → RdAt base W b v l st'.1 st'.2 → Does Tryz.prog fid (fst ++ [] ++ cap).toArray W (fun r w' => ∃ y : CC, r = y.v ∧ y.p = (rf l st').1 ∧ y.own W.heap.size w' ∧ RdAt base w' b v l (rf l st').2.1 (rf l st').2.2 ∧ Ch (fun j => j = b) W w')) : Does Tryz.prog 48 #[.pointer (some ⟨b, 0, none⟩), .int .i64 most, .func (.func fid) fst.toArray cap.toArray] w0 (fun r w' => ∃ q : List CC, Ow w' w0.heap.size 26 8 r q.length (cellsCC q) ∧ q.map CC.p = (rList most rf l st).1 ∧ (∀ y ∈ q, y.own w0.heap.size w') ∧ RdAt base w' b v l (rList most rf l st).2.1 (rList most rf l st).2.2 ∧ Ch (fun j => j = b) w0 w') := by
  have hbl := hR.bk.lt
  have hvl : ∀ i, v.ownBlock = some i → i < w0.heap.size := fun i hi => hR.ow.lt hi
  have hkn := kn_le most l st h0
  refine fn_of (n := 20) (args := [.pointer (some ⟨b, 0, none⟩), .int .i64 most, .func (.func fid) fst.toArray cap.toArray]) Tryz.func48 rfl rfl rfl (W_seq (W_region (L_r (r_av) (L_nil (W_seq (W_region (L_r (r_av) (L_nil ?_))))))))
  refine W_seq (W_seq (W_region (L_r (r_mp rfl) (L_r (r_mi rfl) ?_))))
  refine L_call (.plain rfl) rfl rfl (r_call Tryz.func110 rfl rfl rfl (by rfl)) (rd_countk base b v l st most _ hR (by omega) hb) ?_
  rintro v10 w1 ⟨rfl, hR1, c1⟩
  have hz1 := c1.size
  refine L_r (r_mi rfl) (L_nil (W_block ?_))
  refine W_loopF [2, 10] (fun mz_ f W => ∃ (i : Nat) (z : List CC) (s : St) (vo : Value), f 11 = .int .i64 i ∧ f 7 = vo ∧ (i ≤ kn most l st ∧ rep rf l i (ks most l st) = (z.map CC.p, s) ∧ z.length = i ∧ RdAt base W b v l s.1 s.2 ∧ Ow W w0.heap.size 26 8 vo z.length (cellsCC z) ∧ (∀ y ∈ z, y.own w0.heap.size W) ∧ Ch (fun j => j = b) w0 W) ∧ mz_ = kn most l st - i) ?_ ?_
  ·
   refine ⟨_, 0, [], ks most l st, .slice none 0 0, rfl, rfl, ?_, rfl⟩
   exact ⟨by omega, rfl, rfl, hR1, Ow.nil _ _ _ _, fun y hy => absurd hy (by simp), Ch.au⟩
  rintro m0 g0 w2 ⟨i, z, s, vo, hf11, hf7, hR0, rfl⟩
  refine W_as 11 hf11 rfl ?_
  refine W_as 7 hf7 rfl ?_
  clear hf11 hf7
  obtain ⟨hi, hrep, hzl, hRi, hO, hzo, hch⟩ := hR0
  have hz := hch.size
  refine W_seq (W_region (L_r (r_lss rfl rfl) (L_nil (W_seq ?_))))
  refine W_if rfl (fun h12 => ?_) (fun h12 => ?_)
  ·
   refine W_skip (W_seq (W_block (W_region (L_r (r_mv) (L_r (r_mv) ?_)))))
   refine L_call (.plain rfl) rfl rfl (r_callf hK rfl (by rfl)) (hcl _ s Ch.au (hRi.nw Ch.au)) ?_
   rintro v15 w3 ⟨y9, rfl, hym, hyo, hR9, c3⟩
   have hz3 := c3.size
   have hzo9 : ∀ y ∈ z, y.own w0.heap.size w3 := fun y hy => ((hzo y hy).nw (Ch.au : Nw _ w2)).lo c3 (by omega)
   have hyo9 := hyo.mono (by omega : w0.heap.size ≤ _)
   have hy1 := hyo9.ok.one
   refine L_buildrow [[_, _, _, _, _, _, _, _]] Tryz.underlying44 (show _ = some (some _, 8, _) from rfl) rfl rfl (.plain rfl) rfl (by rfl) (by rfl) rfl (fun b16 w4 hb16 hv16 eb4 hs4 c4 => ?_)
   simp only [List.flatten_cons, List.flatten_nil, List.append_nil, List.cons_append, List.nil_append] at hb16 hv16
   have hO9 : Ow w4 w0.heap.size 26 8 vo z.length (cellsCC z) := Ow.au
   have hzv : ∀ y ∈ z, y.own w0.heap.size w4 := fun y hy => (hzo9 y hy).nw Ch.au
   have hyv : y9.own w0.heap.size w4 := hyo9.nw Ch.au
   refine L_apow Tryz.underlying44 cls_info rfl (by decide) (.plain rfl) rfl (by conv => lhs; whnf) (by conv => lhs; whnf) hO9 Sl.au (by simpa [Array.all_eq_true] using hy1) (by unfold maxLen; omega) (by omega) (by omega) (fun v17 w5 ho17 c17 hob17 => ?_)
   have hz5 := c17.size
   refine L_r (r_av) (L_nil (W_region ?_))
   refine L_r (r_add rfl rfl (by first | exact wr_i64 (by omega) | rfl)) (L_r (r_mi rfl) (L_nil ?_))
   refine ⟨⟨fx2, fx2, trivial⟩, _, ?_, i + 1, z ++ [y9], (rf l s).2, v17, rfl, rfl, ?_, rfl⟩
   · omega
   refine ⟨by omega, by rw [List.map_append, List.map_singleton, hym]; exact rep_snoc hrep, by simp [hzl], ?_, ?_, ?_, Ch.au⟩
   · exact (hR9.nw Ch.au).chg c17 (fun e => by have := ow_base hO9 e; omega) (fun j hj e => by have := hvl j hj; have := ow_base hO9 e; omega)
   ·
    rw [List.length_append, cellsCC_append]
    exact ho17
   ·
    intro y hy
    rcases List.mem_append.1 hy with hy | hy
    · exact (hzv y hy).ap hO9 c17 (by decide) (by decide) (by decide) (by decide) (by decide)
    ·
     rw [List.mem_singleton] at hy
     subst hy
     exact hyv.ap hO9 c17 (by decide) (by decide) (by decide) (by decide) (by decide)
  ·
   refine W_exit ?_
   repeat (first | refine blk_hit ?_ | refine blk_miss rfl ?_)
   refine W_seq (W_region (L_r (r_mv) (L_r (r_av) (L_nil (W_ret ?_)))))
   refine ret1 rfl (by conv => lhs; whnf) ?_
   have e : rList most rf l st = (z.map CC.p, s) := by unfold rList; rw [← hrep, show kn most l st = i by omega]
   rw [e]
   exact ⟨z, Ow.au, rfl, fun y hy => (hzo y hy).nw Ch.au, hRi.nw Ch.au, Ch.au⟩
theorem unp1_walk (base b p : Nat) (v : Value) (l : List UInt8) (st : St) (w0 : World) (hR : RdAt base w0 b v l st.1 st.2) (hG : Gv base w0) (hb : base ≤ w0.heap.size) (hp : Bk w0 p #[.pointer (some ⟨b, 0, none⟩)] 59) : Does Tryz.prog 49 #[.pointer (some ⟨p, 0, none⟩)] w0 (fun r w' => ∃ x : CC, r = x.v ∧ x.p = (rCls l st).1 ∧ x.own w0.heap.size w' ∧ RdAt base w' b v l (rCls l st).2.1 (rCls l st).2.2 ∧ Ch (fun j => j = b) w0 w') := by
  have hbl := hR.bk.lt
  have hpl := hp.lt
  have hvl : ∀ i, v.ownBlock = some i → i < w0.heap.size := fun i hi => hR.ow.lt hi
  have hn1 : b ≠ p := Bk.ne hR.bk hp (by decide)
  refine fn_of (n := 4) (args := [.pointer (some ⟨p, 0, none⟩)]) Tryz.func49 rfl rfl rfl (W_seq (W_region ?_))
  refine L_new (.plain rfl) rfl rfl (r_alloca rfl) (fun w1 b1 hb1 eb1 hs1 c1 => (L_nil (W_seq (W_region (L_r (r_lb rfl rfl) ?_)))))
  refine L_call (.plain rfl) rfl rfl (r_call Tryz.func34 rfl rfl rfl (by rfl)) (take_walk base b v l st _ (hR.nw Ch.au) (hG.nw Ch.au hb) (by omega)) ?_
  rintro v3 w2 ⟨x, rfl, hxp, hxo, hRt, c2⟩
  have hz2 := c2.size
  have hxo2 := hxo.mono (by omega : w0.heap.size + 1 ≤ _)
  have h1x := hxo2.ok.one
  refine L_storerow (.plain rfl) rfl rfl Bk.au (by first | rfl | (simp; done) | assumption) (by first | rfl | assumption) (by first | rfl | (simp [Value.oneCell']; done) | assumption) (fun w3 hb3 hs3 c3 => (L_nil (W_ret ?_)))
  refine r_ret_row rfl rfl Tryz.underlying26 rfl Bk.au (by first | rfl | assumption) ?_
  exact ⟨x, rfl, hxp, (CC.own.lo (b := b1) hxo2 Ch.au (by omega)).mono (by omega), hRt.chg (X := fun j => j = b1) Ch.au (by omega) (fun j hj e => by have := hvl j hj; omega), Ch.au⟩
theorem unp2_walk (g : Nat) (c : CC) (w0 : World) (hG : Gv g w0) (hb : g ≤ w0.heap.size) (hc : c.ok w0) (hs : c.p.sz) : Does Tryz.prog 51 #[c.v] w0 (fun r w' => r = .bool (decide (checkCls c.p = 0)) ∧ Nw w0 w') := by
  have h1c := hc.one
  refine fn_of (n := 6) (args := [c.v]) Tryz.func51 rfl rfl rfl (W_seq (W_region ?_))
  refine L_new (.plain rfl) rfl rfl (r_boxa rfl) (fun w1 b1 hb1 eb1 hs1 c1 => (L_r (r_ab rfl) (L_nil (W_seq (W_region ?_)))))
  refine L_r (r_loadrow Tryz.underlying26 rfl rfl Bk.au (by first | rfl | assumption)) ?_
  refine L_call (.plain rfl) rfl rfl (r_call Tryz.func13 rfl rfl rfl (by rfl)) (ccheck_walk g c _ (hG.nw Ch.au hb) (by omega) (hc.nw Ch.au) hs) ?_
  rintro v4 w2 ⟨rfl, c2⟩
  have hz2 := c2.size
  refine L_r (r_eql rfl rfl) (L_r (r_ab rfl) (L_nil (W_ret ?_)))
  refine ret1 (v := .bool _) rfl rfl ?_
  exact ⟨rfl, Ch.au⟩
/-- Are bytes classes? -/
def unpC (l : List UInt8) : Prop := endE l (rList 64 rCls l (0, 0)).2 = 0 ∧ ∀ c ∈ (rList 64 rCls l (0, 0)).1, checkCls c = 0
noncomputable instance (l : List UInt8) : Decidable (unpC l) := Classical.propDecidable _
theorem rl_len64 {l : List UInt8} {st : St} : (rList 64 rCls l st).1.length ≤ 64 := by
  unfold rList
  rw [rep_len]
  have := kn_le 64 l st (by decide)
  omega
set_option maxHeartbeats 2000000 in
theorem cunpack_walk (g : Nat) (v : Value) (l : List UInt8) (w0 : World) (hG : Gv g w0) (hb : g ≤ w0.heap.size) (hv : Sl w0 v 1 l.length (l.map b8)) (hl : l.length ≤ 100000000) : Does Tryz.prog 22 #[v] w0 (fun r w' => ∃ (v' : Value) (z : List CC), r = .tuple #[v', .int .i64 (if unpC l then 0 else 50)] ∧ (unpC l → Ow w' w0.heap.size 26 8 v' z.length (cellsCC z) ∧ z.map CC.p = (rList 64 rCls l (0, 0)).1 ∧ ∀ y ∈ z, y.own w0.heap.size w') ∧ (¬ unpC l → v' = .slice none 0 0) ∧ Nw w0 w') := by
  refine fn_of (n := 26) (args := [v]) Tryz.func22 rfl rfl rfl (W_seq (W_region (L_r (r_av) (L_r (r_ai rfl) (L_nil (W_seq (W_region (L_r (r_mv) ?_))))))))
  refine L_call (.plain rfl) rfl rfl (r_call Tryz.func33 rfl rfl rfl (by rfl)) (read_walk v l _ Sl.au (by omega)) ?_
  rintro v9 w1 ⟨br, vr, rfl, hRd, c1⟩
  have hz1 := c1.size
  have hbr := hRd.hb
  have hRb : RdAt g w1 br vr l 0 0 := hRd.down (by omega)
  have hbrl := hRb.bk.lt
  have hvrl : ∀ i, vr.ownBlock = some i → i < (w1).heap.size := fun i hi => hRb.ow.lt hi
  refine L_new (.plain rfl) rfl rfl (r_alloc1 rfl rfl) (fun w2 b4 hb4 eb2 hs2 c2 => ?_)
  refine L_set (.plain rfl) rfl Bk.au (r_store (v := .pointer _) rfl rfl rfl rfl Bk.au (by first | decide | (simp; done) | omega)) (fun w3 hb3 hs3 c3 => ?_)
  try simp only [List.setIfInBounds_toArray, List.set_cons_zero, List.set_cons_succ] at hb3
  refine L_nil (W_seq (W_region (L_r (r_lb rfl rfl) ?_)))
  refine L_r (r_funcL (l1 := []) (l2 := [.pointer _]) rfl rfl) ?_
  refine L_call (.plain rfl) rfl rfl (r_call Tryz.func48 rfl rfl rfl (by rfl)) (read_C g br vr l (0, 0) 64 49 [] [.pointer (some ⟨b4, 0, none⟩)] rCls _ (hRb.nw Ch.au) (by omega) (by omega) (by omega) ⟨_, _, Tryz.func49, rfl, rfl⟩ (fun W st' k hR' => unp1_walk g br b4 vr l st' W hR' (hG.ch (T := fun j => j = br ∨ w0.heap.size ≤ j) Ch.au hb (fun i hi => by omega)) (by have := k.size; omega) Bk.au)) ?_
  rintro v12 w4 ⟨z, ho12, hzp, hzo, hRt, c4⟩
  have hz4 := c4.size
  have hzl : z.length ≤ 64 := by { have h := congrArg List.length hzp; rw [List.length_map] at h; have h2 := rl_len64 (l := l) (st := (0, 0)); omega }
  have ho12s := ho12.sl
  have hzs : ∀ y ∈ z, y.p.sz := fun y hy => (rl_all (C := Cls.sz) (fun st => rCls_sz l st)) y.p (hzp ▸ List.mem_map_of_mem hy)
  refine L_r (r_av) (L_nil (W_seq (W_seq (W_region (L_r (r_lb rfl rfl) ?_)))))
  refine L_call (.plain rfl) rfl rfl (r_call Tryz.func35 rfl rfl rfl (by rfl)) (rd_end g br vr l (rList 64 rCls l (0, 0)).2 _ (hRt.nw Ch.au)) ?_
  rintro v15 w5 ⟨ae, rfl, c5⟩
  have hz5 := c5.size
  have hzo3 : ∀ y ∈ z, y.own w0.heap.size w5 := fun y hy => ((hzo y hy).nw Ch.au).mono (by omega)
  have hGe : Gv g w5 := hG.nw Ch.au hb
  refine L_r (r_mv) (L_r (r_ext2_0 rfl) (L_r (r_ext2_1 rfl) (L_r (r_ai rfl) (L_r (r_ai rfl) (L_nil (W_seq (W_region (L_r (r_mi rfl) ?_))))))))
  refine L_r (r_neq rfl rfl) (L_r (r_mb rfl) ?_)
  refine L_case (d := 20) rfl (fun h20 => ?_) (fun h20 => ?_)
  ·
   refine L_ps (L_ps (L_ps (L_r (r_pt rfl rfl) (L_nil ?_))))
   refine W_true rfl (W_seq (W_region (L_r (r_av) (L_r (r_ai rfl) (L_nil (W_ret ?_))))))
   refine ret2 (v := .int _ _) rfl (by conv => lhs; whnf) rfl ?_
   have hall : (z.all fun x => decide (checkCls x.p = 0)) = true ↔ ∀ c ∈ (rList 64 rCls l (0, 0)).1, checkCls c = 0 := by
     rw [← hzp, List.all_eq_true]
     constructor
     ·
      intro h c hc
      obtain ⟨y, hy, rfl⟩ := List.mem_map.1 hc
      exact of_decide_eq_true (h y hy)
     ·
      intro h y hy
      exact decide_eq_true (h _ (List.mem_map_of_mem hy))
   have hgc : unpC l ↔ endE l (rList 64 rCls l (0, 0)).2 = 0 ∧ (z.all fun x => decide (checkCls x.p = 0)) = true := by rw [hall]; exact Iff.rfl
   clear hall
   by_cases hgi : unpC l
   ·
    rw [if_pos hgi]
    have hgj := hgc.1 hgi
    first
    | (exfalso; have := hgj.1; omega)
    | (exfalso; simp_all; done)
    | exact ⟨_, z, rfl, fun _ => ⟨Ow.mono Ow.au (by omega), hzp, fun y hy => ((hzo3 y hy).nw Ch.au).mono (by omega)⟩, fun k => absurd hgi k, Ch.au⟩
   ·
    rw [if_neg hgi]
    have hgj := fun k => hgi (hgc.2 k)
    first
    | (exfalso; refine hgj ⟨by omega, ?_⟩; simp_all; done)
    | exact ⟨_, [], rfl, fun k => absurd k hgi, fun _ => rfl, Ch.au⟩
  ·
   refine L_g (r_mv) ?_
   refine L_call (.yes 2 false rfl rfl) rfl rfl (r_call Tryz.func50 rfl rfl rfl (by rfl)) (every_C z v12 51 [] (fun x => decide (checkCls x.p = 0)) _ Sl.au (by omega) ⟨_, _, Tryz.func51, rfl, rfl⟩ (fun y hy W k => unp2_walk g y W (hGe.nw Ch.au (by omega)) (by have := k.size; omega) ((hzo3 y hy).ok.nw Ch.au) (hzs y hy))) ?_
   rintro v22 w6 ⟨rfl, c6⟩
   have hz6 := c6.size
   refine L_g (r_not rfl) (L_r (r_pf rfl rfl) (L_nil ?_))
   refine W_bool rfl (fun h24 => ?_) (fun h24 => ?_)
   ·
    refine W_seq (W_region (L_r (r_av) (L_r (r_ai rfl) (L_nil (W_ret ?_)))))
    refine ret2 (v := .int _ _) rfl (by conv => lhs; whnf) rfl ?_
    have hall : (z.all fun x => decide (checkCls x.p = 0)) = true ↔ ∀ c ∈ (rList 64 rCls l (0, 0)).1, checkCls c = 0 := by
      rw [← hzp, List.all_eq_true]
      constructor
      ·
       intro h c hc
       obtain ⟨y, hy, rfl⟩ := List.mem_map.1 hc
       exact of_decide_eq_true (h y hy)
      ·
       intro h y hy
       exact decide_eq_true (h _ (List.mem_map_of_mem hy))
    have hgc : unpC l ↔ endE l (rList 64 rCls l (0, 0)).2 = 0 ∧ (z.all fun x => decide (checkCls x.p = 0)) = true := by rw [hall]; exact Iff.rfl
    clear hall
    by_cases hgi : unpC l
    ·
     rw [if_pos hgi]
     have hgj := hgc.1 hgi
     first
     | (exfalso; have := hgj.1; omega)
     | (exfalso; simp_all; done)
     | exact ⟨_, z, rfl, fun _ => ⟨Ow.mono Ow.au (by omega), hzp, fun y hy => ((hzo3 y hy).nw Ch.au).mono (by omega)⟩, fun k => absurd hgi k, Ch.au⟩
    ·
     rw [if_neg hgi]
     have hgj := fun k => hgi (hgc.2 k)
     first
     | (exfalso; refine hgj ⟨by omega, ?_⟩; simp_all; done)
     | exact ⟨_, [], rfl, fun k => absurd k hgi, fun _ => rfl, Ch.au⟩
   ·
    refine W_skip (W_seq (W_region (L_r (r_mv) (L_r (r_av) (L_r (r_ai rfl) (L_nil (W_ret ?_)))))))
    refine ret2 (v := .int _ _) rfl (by conv => lhs; whnf) rfl ?_
    have hall : (z.all fun x => decide (checkCls x.p = 0)) = true ↔ ∀ c ∈ (rList 64 rCls l (0, 0)).1, checkCls c = 0 := by
      rw [← hzp, List.all_eq_true]
      constructor
      ·
       intro h c hc
       obtain ⟨y, hy, rfl⟩ := List.mem_map.1 hc
       exact of_decide_eq_true (h y hy)
      ·
       intro h y hy
       exact decide_eq_true (h _ (List.mem_map_of_mem hy))
    have hgc : unpC l ↔ endE l (rList 64 rCls l (0, 0)).2 = 0 ∧ (z.all fun x => decide (checkCls x.p = 0)) = true := by rw [hall]; exact Iff.rfl
    clear hall
    by_cases hgi : unpC l
    ·
     rw [if_pos hgi]
     have hgj := hgc.1 hgi
     first
     | (exfalso; have := hgj.1; omega)
     | (exfalso; simp_all; done)
     | exact ⟨_, z, rfl, fun _ => ⟨Ow.mono Ow.au (by omega), hzp, fun y hy => ((hzo3 y hy).nw Ch.au).mono (by omega)⟩, fun k => absurd hgi k, Ch.au⟩
    ·
     rw [if_neg hgi]
     have hgj := fun k => hgi (hgc.2 k)
     first
     | (exfalso; refine hgj ⟨by omega, ?_⟩; simp_all; done)
     | exact ⟨_, [], rfl, fun k => absurd k hgi, fun _ => rfl, Ch.au⟩
/-! ### classes as bytes -/
noncomputable def allC : List Cls → Int
  | [] => 0
  | c :: z => if checkCls c ≠ 0 then checkCls c else allC z
noncomputable def packE (z : List Cls) : Int := if 64 < z.length then 51 else allC z
def packB (z : List Cls) : List UInt8 := varL z.length ++ z.flatMap clsB
theorem allC_at {z : List Cls} {i : Nat} (hi : i < z.length) (h : ∀ j (hj : j < z.length), j < i → checkCls z[j] = 0) (hk : checkCls z[i] ≠ 0) : allC z = checkCls z[i] := by
  induction z generalizing i with
  | nil => exact absurd hi (by simp)
  | cons c z ih =>
    cases i with
    | zero => exact if_pos hk
    | succ i =>
      have h0 : checkCls c = 0 := h 0 (by simp) (by omega)
      show (if checkCls c ≠ 0 then checkCls c else allC z) = _
      rw [if_neg (by rw [h0]; decide)]
      exact ih (by simpa using hi) (fun j hj hji => h (j + 1) (by simpa using hj) (by omega)) hk
theorem allC_0 {z : List Cls} (h : ∀ c ∈ z, checkCls c = 0) : allC z = 0 := by
  induction z with
  | nil => rfl
  | cons c z ih =>
    show (if checkCls c ≠ 0 then checkCls c else allC z) = _
    rw [if_neg (by rw [h c List.mem_cons_self]; decide)]
    exact ih fun c hc => h c (List.mem_cons_of_mem _ hc)
set_option maxHeartbeats 2000000 in
theorem cpack_walk (g : Nat) (v : Value) (z : List CC) (w0 : World) (hG : Gv g w0) (hb : g ≤ w0.heap.size) (hv : Sl w0 v 8 z.length (cellsCC z)) (hl : z.length ≤ 1000000000000) (hc : ∀ c ∈ z, c.ok w0) (hs : ∀ c ∈ z, c.p.sz) (hn : ∀ c ∈ z, insN c.p) : Does Tryz.prog 24 #[v] w0 (fun r w' => ∃ v', r = .tuple #[v', .int .i64 (packE (z.map CC.p))] ∧ (packE (z.map CC.p) ≠ 0 → v' = .slice none 0 0) ∧ (packE (z.map CC.p) = 0 → Ow w' w0.heap.size 5 1 v' (packB (z.map CC.p)).length ((packB (z.map CC.p)).map b8)) ∧ Nw w0 w') := by
  have hml : (z.map CC.p).length = z.length := List.length_map _
  have hvl := varL_ten (v := z.length) (by omega)
  refine fn_of (n := 35) (args := [v]) Tryz.func24 rfl rfl rfl (W_seq (W_region (L_r (r_av) (L_r (r_ai rfl) (L_nil (W_seq (W_seq (W_region ?_))))))))
  refine L_r (r_mv) ?_
  refine L_r (r_lenSl Tryz.underlying44 (by conv => lhs; whnf) Sl.au) (L_r (r_gtr rfl rfl) (L_nil ?_))
  refine W_if rfl (fun h10 => ?_) (fun h10 => ?_)
  ·
   refine W_seq (W_region (L_r (r_av) (L_r (r_ai rfl) (L_nil (W_ret ?_)))))
   refine ret2 (v := .int _ _) rfl (by conv => lhs; whnf) rfl ?_
   first
   | (rw [hpe]; exact ⟨_, rfl, fun h => absurd rfl h, fun _ => hvb.mono (by omega), Ch.au⟩)
   | (have e : packE (z.map CC.p) = 51 := by unfold packE; rw [if_pos (by omega)]
      rw [e]; exact ⟨_, rfl, fun _ => rfl, fun h => absurd h (by decide), Ch.au⟩)
   | (have e : packE (z.map CC.p) = checkCls x.p := by
        unfold packE; rw [if_neg (by omega)]
        have h := allC_at (z := z.map CC.p) (i := i) (by omega) (fun j hj hji => by rw [List.getElem_map]; exact h0 j (by omega) hji) (by rw [List.getElem_map, ← hx]; omega)
        rw [h, List.getElem_map, ← hx]
      rw [e]; exact ⟨_, rfl, fun _ => rfl, fun h => absurd h (by omega), Ch.au⟩)
  ·
   refine W_skip (W_seq (W_region ?_))
   refine L_call (.plain rfl) rfl rfl (r_call Tryz.func30 rfl rfl rfl (by rfl)) (write_walk _) ?_
   rintro v11 w1 ⟨bw, rfl, hW0, c1⟩
   have hz1 := c1.size
   refine L_r (r_ap rfl) (L_nil (W_seq (W_region (L_r (r_mp rfl) (L_r (r_mv) ?_)))))
   refine L_r (r_lenSl Tryz.underlying44 (by conv => lhs; whnf) Sl.au) ?_
   refine L_r (r_conv Tryz.underlying3 Tryz.underlying80 rfl (by first | exact wr_u64 (by omega) | rfl)) ?_
   refine L_build1o [.int _ _] Tryz.underlying132 rfl rfl rfl (.plain rfl) rfl (by rfl) (by rfl) (by rfl) (fun v16 w2 ho16 eb2 hs2 c2 => ?_)
   refine L_call (.plain rfl) rfl rfl (r_call Tryz.func52 rfl rfl rfl (by rfl)) (wnum_walk w0.heap.size w0.heap.size bw [] _ [z.length] _ (WrAt.down (hW0.nw Ch.au) (by omega)) (Ow.mono (ow_lit ho16) (by omega)) (by intro x hx; rw [List.mem_singleton] at hx; omega) (by show 0 + 10 * 1 ≤ _; omega) (by omega)) ?_
   rintro v17 w3 ⟨rfl, hW1, c3⟩
   have hz3 := c3.size
   have hW1' : WrAt w0.heap.size w3 bw (varL z.length) := by { have h := hW1; simpa using h }
   refine L_nil (W_seq (W_seq (W_region (L_r (r_mv) ?_))))
   refine L_r (r_lenSl Tryz.underlying44 (by conv => lhs; whnf) Sl.au) (L_r (r_mi rfl) (L_nil (W_block ?_)))
   refine W_loopF [4, 18, 19] (fun mz_ f W => ∃ (i : Nat), f 20 = .int .i64 i ∧ (i ≤ z.length ∧ (∀ j (hj : j < z.length), j < i → checkCls z[j].p = 0) ∧ WrAt w0.heap.size W bw (varL z.length ++ (z.take i).flatMap (fun x => clsB x.p)) ∧ Nw w0 W) ∧ mz_ = z.length - i) ?_ ?_
   ·
    refine ⟨_, 0, rfl, ?_, rfl⟩
    exact ⟨by omega, fun j hj hji => absurd hji (by omega), by rw [List.take_zero, List.flatMap_nil, List.append_nil]; exact hW1'.nw Ch.au, Ch.au⟩
   rintro m0 g0 w4 ⟨i, hf20, hR0, rfl⟩
   refine W_as 20 hf20 rfl ?_
   clear hf20
   obtain ⟨hi, h0, hW, hnw⟩ := hR0
   have hz := hnw.size
   refine W_seq (W_region (L_r (r_lss rfl rfl) (L_nil (W_seq ?_))))
   refine W_if rfl (fun h21 => ?_) (fun h21 => ?_)
   ·
    have hil : i < z.length := by omega
    have hrow := cellsCC_row z i hil
    have hxm := List.getElem_mem hil
    obtain ⟨x, hx⟩ : ∃ x, x = z[i] := ⟨_, rfl⟩
    rw [← hx] at hrow hxm
    have hxo := hc x hxm
    have h1x := hxo.one
    have htl : ((z.take i).flatMap fun x => clsB x.p).length ≤ 900000 * (z.take i).length := flat_leL _ 900000 _ fun y hy => by
      obtain ⟨j, hj, rfl⟩ := List.mem_iff_getElem.1 hy
      rw [List.length_take] at hj
      rw [List.getElem_take]
      obtain ⟨hp, hf⟩ := check_0 (h0 j (by omega) (by omega))
      exact clsB_le hp hf (hn _ (List.getElem_mem _))
    rw [List.length_take] at htl
    refine W_skip (W_seq (W_block (W_seq (W_region ?_))))
    refine L_r (r_ix Tryz.underlying44 (show _ = some 8 from rfl) (by conv => lhs; whnf) rfl Sl.au) ?_
    refine L_r (r_loadSlrow (us := [.string x.p.name, .string x.p.super, x.vl, .bool x.p.ifc, .bool x.p.abs, .bool x.p.fin, x.vf, x.vm]) Tryz.underlying26 rfl rfl rfl rfl Sl.au (by exact hrow)) ?_
    refine L_new (.plain rfl) rfl rfl (r_alloca rfl) (fun w5 b6 hb6 eb5 hs5 c5 => ?_)
    refine L_storerow (.plain rfl) rfl rfl Bk.au (by first | rfl | (simp; done) | assumption) (by first | rfl | assumption) (by first | rfl | (simp [Value.oneCell']; done) | assumption) (fun w6 hb6 hs6 c6 => (L_nil (W_seq (W_seq (W_region ?_)))))
    refine L_r (r_loadrow Tryz.underlying26 rfl rfl Bk.au (by first | rfl | assumption)) ?_
    refine L_call (.plain rfl) rfl rfl (r_call Tryz.func13 rfl rfl rfl (by rfl)) (ccheck_walk g x _ (hG.nw Ch.au hb) (by omega) (hxo.nw Ch.au) (hs x hxm)) ?_
    rintro v25 w7 ⟨rfl, c7⟩
    have hz7 := c7.size
    refine L_r (r_ai rfl) (L_nil (W_seq (W_region (L_r (r_mi rfl) (L_r (r_neq rfl rfl) (L_nil ?_))))))
    refine W_if rfl (fun h27 => ?_) (fun h27 => ?_)
    ·
     refine W_seq (W_region (L_r (r_mi rfl) (L_r (r_av) (L_r (r_ai rfl) (L_nil (W_ret ?_))))))
     refine ret2 (v := .int _ _) rfl (by conv => lhs; whnf) rfl ?_
     first
     | (rw [hpe]; exact ⟨_, rfl, fun h => absurd rfl h, fun _ => hvb.mono (by omega), Ch.au⟩)
     | (have e : packE (z.map CC.p) = 51 := by unfold packE; rw [if_pos (by omega)]
        rw [e]; exact ⟨_, rfl, fun _ => rfl, fun h => absurd h (by decide), Ch.au⟩)
     | (have e : packE (z.map CC.p) = checkCls x.p := by
          unfold packE; rw [if_neg (by omega)]
          have h := allC_at (z := z.map CC.p) (i := i) (by omega) (fun j hj hji => by rw [List.getElem_map]; exact h0 j (by omega) hji) (by rw [List.getElem_map, ← hx]; omega)
          rw [h, List.getElem_map, ← hx]
        rw [e]; exact ⟨_, rfl, fun _ => rfl, fun h => absurd h (by omega), Ch.au⟩)
    ·
     obtain ⟨hp, hf⟩ := check_0 (by omega : checkCls x.p = 0)
     have hbl := clsB_le hp hf (hn x hxm)
     have hgc := good_of hp hf (hn x hxm)
     refine W_skip (W_region (L_r (r_mp rfl) ?_))
     refine L_r (r_loadrow Tryz.underlying26 rfl rfl Bk.au (by first | rfl | assumption)) ?_
     refine L_call (.plain rfl) rfl rfl (r_call Tryz.func31 rfl rfl rfl (by rfl)) (write_cls_walk g w0.heap.size bw _ x w0 _ ⟨hW.nw Ch.au, hG.nw Ch.au hb, Ch.refl _, Ch.au, hb, by omega, Nat.le_refl _⟩ hxo hgc (by rw [List.length_append]; omega)) ?_
     rintro v31 w8 ⟨rfl, hW2, c8⟩
     have hz8 := c8.size
     refine L_nil (W_region ?_)
     refine L_r (r_add rfl rfl (by first | exact wr_i64 (by omega) | rfl)) (L_r (r_mi rfl) (L_nil ?_))
     refine ⟨⟨fx2, fx2, fx2, trivial⟩, _, ?_, i + 1, rfl, ?_, rfl⟩
     · omega
     refine ⟨by omega, fun j hj hji => ?_, ?_, Ch.au⟩
     ·
      rcases Nat.lt_or_ge j i with h | h
      · exact h0 j hj h
      ·
       have e : j = i := by omega
       subst e; rw [← hx]; omega
     ·
      rw [List.take_succ_eq_append_getElem hil, List.flatMap_append, ← List.append_assoc, ← hx]
      simpa using hW2.nw (w' := w8) Ch.au
   ·
    refine W_exit ?_
    repeat (first | refine blk_hit ?_ | refine blk_miss rfl ?_)
    refine W_seq ?_
    have hall : ∀ c ∈ z.map CC.p, checkCls c = 0 := fun c hc => by
      obtain ⟨y, hy, rfl⟩ := List.mem_map.1 hc
      obtain ⟨j, hj, rfl⟩ := List.mem_iff_getElem.1 hy
      exact h0 j hj (by omega)
    have hpe : packE (z.map CC.p) = 0 := by unfold packE; rw [if_neg (by omega)]; exact allC_0 hall
    have hpb : packB (z.map CC.p) = varL z.length ++ z.flatMap (fun x => clsB x.p) := by unfold packB; rw [hml, List.flatMap_map]
    have hpl : (packB (z.map CC.p)).length ≤ 60000000 := by
      have := flat_leL (fun x : CC => clsB x.p) 900000 z fun y hy => by
        obtain ⟨hp, hf⟩ := check_0 (hall _ (List.mem_map_of_mem hy))
        exact clsB_le hp hf (hn _ hy)
      rw [hpb, List.length_append]
      omega
    have hWe : WrAt w0.heap.size w4 bw (packB (z.map CC.p)) := by
      rw [hpb]
      have h := hW.nw (w' := w4) Ch.au
      rw [show i = z.length by omega, List.take_length] at h
      exact h
    refine W_region (L_r (r_mp rfl) ?_)
    refine L_call (.plain rfl) rfl rfl (r_call Tryz.func32 rfl rfl rfl (by rfl)) (bytes_walk w0.heap.size bw (packB (z.map CC.p)) _ (hWe.nw Ch.au) (by omega)) ?_
    rintro v34 w9 ⟨v', rfl, hvb, c9⟩
    have hz9 := c9.size
    refine L_r (r_av) (L_r (r_ai rfl) (L_nil (W_ret ?_)))
    refine ret2 (v := .int _ _) rfl (by conv => lhs; whnf) rfl ?_
    first
    | (rw [hpe]; exact ⟨_, rfl, fun h => absurd rfl h, fun _ => hvb.mono (by omega), Ch.au⟩)
    | (have e : packE (z.map CC.p) = 51 := by unfold packE; rw [if_pos (by omega)]
       rw [e]; exact ⟨_, rfl, fun _ => rfl, fun h => absurd h (by decide), Ch.au⟩)
    | (have e : packE (z.map CC.p) = checkCls x.p := by
         unfold packE; rw [if_neg (by omega)]
         have h := allC_at (z := z.map CC.p) (i := i) (by omega) (fun j hj hji => by rw [List.getElem_map]; exact h0 j (by omega) hji) (by rw [List.getElem_map, ← hx]; omega)
         rw [h, List.getElem_map, ← hx]
       rw [e]; exact ⟨_, rfl, fun _ => rfl, fun h => absurd h (by omega), Ch.au⟩)
end Go.Proofs.YthpknpfhpkkheaaGreatDoor

namespace Go.Proofs.YthpknpfhpkkheaaGreatDoor
open Go Go.RowKit
set_option linter.unusedVariables false
set_option linter.unusedSimpArgs false
set_option maxRecDepth 100000
theorem eqFld (a b a' b' : ByteArray) (c c' : Bool) (W : World) :
    (Op.equal 52 (.agg #[.string a, .string b, .bool c]) (.agg #[.string a', .string b', .bool c'])).run Tryz.prog W = .ok (decide (a = a' ∧ b = b' ∧ c = c')) W := by
  rw [eq_struct Tryz.underlying52 (by kernel_rfl)]
  refine (eqF_cons (by decide) (by kernel_rfl) rfl rfl (eqI_string Tryz.underlying9) (eqF_cons (by decide) (by kernel_rfl) rfl rfl (eqI_string Tryz.underlying9) (eqF_cons (by decide) (by kernel_rfl) rfl rfl (eqI_bool Tryz.underlying4) eqF_nil))).trans ?_
  congr 1
  by_cases h : a = a' ∧ b = b' ∧ c = c'
  · rw [decide_eq_true h, decide_eq_true (by simpa using h)]
  · rw [decide_eq_false h, decide_eq_false (by simpa using h)]
theorem eqCat (a b c a' b' c' : Int) (s s' : ByteArray) (W : World) :
    (Op.equal 70 (.agg #[.int .i64 a, .int .i64 b, .int .i64 c, .string s]) (.agg #[.int .i64 a', .int .i64 b', .int .i64 c', .string s'])).run Tryz.prog W = .ok (decide (a = a' ∧ b = b' ∧ c = c' ∧ s = s')) W := by
  rw [eq_struct Tryz.underlying70 (by kernel_rfl)]
  refine (eqF_cons (by decide) (by kernel_rfl) rfl rfl (eqI_int Tryz.underlying3) (eqF_cons (by decide) (by kernel_rfl) rfl rfl (eqI_int Tryz.underlying3) (eqF_cons (by decide) (by kernel_rfl) rfl rfl (eqI_int Tryz.underlying3) (eqF_cons (by decide) (by kernel_rfl) rfl rfl (eqI_string Tryz.underlying9) eqF_nil)))).trans ?_
  congr 1
  by_cases h : a = a' ∧ b = b' ∧ c = c' ∧ s = s'
  · rw [decide_eq_true h, decide_eq_true (by simpa using h)]
  · rw [decide_eq_false h, decide_eq_false (by simpa using h)]
set_option maxHeartbeats 1000000 in
theorem eq_S (va vb : Value) (x y : List ByteArray) (w0 : World) (hva : Sl w0 va 1 x.length (scells x)) (hvb : Sl w0 vb 1 y.length (scells y)) (hl : x.length ≤ 1000000000000000) (hl2 : y.length ≤ 1000000000000000) : Does Tryz.prog 44 #[va, vb] w0 (fun r w' => ∃ b : Bool, r = .bool b ∧ (b = true ↔ x = y) ∧ Nw w0 w') := by
  refine fn_of (n := 26) (args := [va, vb]) Tryz.func44 rfl rfl rfl (W_seq (W_region (L_r (r_ab rfl) (L_nil (W_seq (W_seq (W_region (L_r (r_mv) ?_))))))))
  refine L_r (r_lenSl Tryz.underlying22 (by conv => lhs; whnf) Sl.au) (L_r (r_mv) ?_)
  refine L_r (r_lenSl Tryz.underlying22 (by conv => lhs; whnf) Sl.au) (L_r (r_neq rfl rfl) (L_nil ?_))
  refine W_if rfl (fun h10 => ?_) (fun h10 => ?_)
  ·
   refine W_seq (W_region (L_r (r_ab rfl) (L_nil (W_ret ?_))))
   refine ret1 (v := .bool _) rfl rfl ?_
   first
   | exact ⟨true, rfl, ⟨fun _ => List.ext_getElem (by omega) fun j h1 h2 => hn j h1 h2 (by omega), fun _ => rfl⟩, Ch.au⟩
   | exact ⟨false, rfl, ⟨fun h => absurd h (by decide), fun e => by subst e; omega⟩, Ch.au⟩
   | (have hpq : p ≠ q := by first | exact h24 | simpa using h24
      exact ⟨false, rfl, ⟨fun h => absurd h (by decide), fun e => absurd (by subst e; rw [hp, hq]) hpq⟩, Ch.au⟩)
  ·
   refine W_skip (W_seq (W_seq (W_region (L_r (r_mv) ?_))))
   refine L_r (r_lenSl Tryz.underlying22 (by conv => lhs; whnf) Sl.au) (L_r (r_mi rfl) (L_nil (W_block ?_)))
   refine W_loopF [0, 1, 12] (fun mz_ f W => ∃ (i : Nat), f 13 = .int .i64 i ∧ (i ≤ x.length ∧ (∀ j (h1 : j < x.length) (h2 : j < y.length), j < i → x[j] = y[j]) ∧ Nw w0 W) ∧ mz_ = x.length - i) ?_ ?_
   ·
    refine ⟨_, 0, rfl, ?_, rfl⟩
    exact ⟨by omega, fun j h1 h2 hji => absurd hji (by omega), Ch.au⟩
   rintro m0 g0 w1 ⟨i, hf13, hR0, rfl⟩
   refine W_as 13 hf13 rfl ?_
   clear hf13
   obtain ⟨hi, hn, hnw⟩ := hR0
   have hz := hnw.size
   refine W_seq (W_region (L_r (r_lss rfl rfl) (L_nil (W_seq ?_))))
   refine W_if rfl (fun h14 => ?_) (fun h14 => ?_)
   ·
    have hil : i < x.length := by omega
    have hil2 : i < y.length := by omega
    have hrp := scells_get x i hil
    have hrq := scells_get y i hil2
    obtain ⟨p, hp⟩ : ∃ p, p = x[i] := ⟨_, rfl⟩
    obtain ⟨q, hq⟩ : ∃ q, q = y[i] := ⟨_, rfl⟩
    rw [← hp] at hrp
    rw [← hq] at hrq
    refine W_skip (W_seq (W_block (W_seq (W_region (L_r (r_mi rfl) (L_r (r_ai rfl) (L_nil (W_seq ?_))))))))
    refine W_draw (fun W => Sl W va 1 x.length (scells x) ∧ Sl W vb 1 y.length (scells y)) 9 (m := 9) (by kernel_rfl) rfl (fun w2 c2 hs2 => ?_)
    refine held (by exact ⟨Sl.au, Sl.au⟩) (fun hS => ?_)
    refine D_t 0 rfl (fun W hW => r_mv) ?_
    refine D_t 1 rfl (fun W hW => r_mi rfl) ?_
    refine D_t 2 rfl (fun W hW => r_ix Tryz.underlying22 (show _ = some 1 from rfl) (by conv => lhs; whnf) rfl (by first | exact hW.1 | exact hW.2)) ?_
    refine D_t 3 rfl (fun W hW => r_loadSl rfl rfl (by first | exact hW.1 | exact hW.2) (by first | exact hrp | exact hrq)) ?_
    refine D_t 4 rfl (fun W hW => r_mv) ?_
    refine D_t 5 rfl (fun W hW => r_mi rfl) ?_
    refine D_t 6 rfl (fun W hW => r_ix Tryz.underlying22 (show _ = some 1 from rfl) (by conv => lhs; whnf) rfl (by first | exact hW.1 | exact hW.2)) ?_
    refine D_t 7 rfl (fun W hW => r_loadSl rfl rfl (by first | exact hW.1 | exact hW.2) (by first | exact hrp | exact hrq)) ?_
    refine D_t 8 rfl (fun W hW => r_neqs rfl rfl) ?_
    refine D_done (by kernel_rfl) ?_
    refine W_if rfl (fun h24 => ?_) (fun h24 => ?_)
    ·
     refine W_seq (W_region (L_r (r_ab rfl) (L_nil (W_ret ?_))))
     refine ret1 (v := .bool _) rfl rfl ?_
     first
     | exact ⟨true, rfl, ⟨fun _ => List.ext_getElem (by omega) fun j h1 h2 => hn j h1 h2 (by omega), fun _ => rfl⟩, Ch.au⟩
     | exact ⟨false, rfl, ⟨fun h => absurd h (by decide), fun e => by subst e; omega⟩, Ch.au⟩
     | (have hpq : p ≠ q := by first | exact h24 | simpa using h24
        exact ⟨false, rfl, ⟨fun h => absurd h (by decide), fun e => absurd (by subst e; rw [hp, hq]) hpq⟩, Ch.au⟩)
    ·
     refine W_skip (W_region ?_)
     refine L_r (r_add rfl rfl (by first | exact wr_i64 (by omega) | rfl)) (L_r (r_mi rfl) (L_nil ?_))
     refine ⟨⟨fx2, fx2, fx2, trivial⟩, _, ?_, i + 1, rfl, ?_, rfl⟩
     · omega
     have hpq : p = q := by first | exact h24 | exact Classical.not_not.1 h24 | simpa using h24
     refine ⟨by omega, fun j h1 h2 hji => ?_, Ch.au⟩
     rcases Nat.lt_or_ge j i with h | h
     · exact hn j h1 h2 h
     ·
      have e : j = i := by omega
      subst e
      rw [← hp, ← hq]; exact hpq
   ·
    refine W_exit ?_
    repeat (first | refine blk_hit ?_ | refine blk_miss rfl ?_)
    refine W_seq (W_region (L_r (r_ab rfl) (L_nil (W_ret ?_))))
    refine ret1 (v := .bool _) rfl rfl ?_
    first
    | exact ⟨true, rfl, ⟨fun _ => List.ext_getElem (by omega) fun j h1 h2 => hn j h1 h2 (by omega), fun _ => rfl⟩, Ch.au⟩
    | exact ⟨false, rfl, ⟨fun h => absurd h (by decide), fun e => by subst e; omega⟩, Ch.au⟩
    | (have hpq : p ≠ q := by first | exact h24 | simpa using h24
       exact ⟨false, rfl, ⟨fun h => absurd h (by decide), fun e => absurd (by subst e; rw [hp, hq]) hpq⟩, Ch.au⟩)
set_option maxHeartbeats 1000000 in
theorem eq_F (va vb : Value) (x y : List CF) (w0 : World) (hva : Sl w0 va 3 x.length (cellsCF x)) (hvb : Sl w0 vb 3 y.length (cellsCF y)) (hl : x.length ≤ 1000000000000000) (hl2 : y.length ≤ 1000000000000000) : Does Tryz.prog 45 #[va, vb] w0 (fun r w' => ∃ b : Bool, r = .bool b ∧ (b = true ↔ x = y) ∧ Nw w0 w') := by
  refine fn_of (n := 26) (args := [va, vb]) Tryz.func45 rfl rfl rfl (W_seq (W_region (L_r (r_ab rfl) (L_nil (W_seq (W_seq (W_region (L_r (r_mv) ?_))))))))
  refine L_r (r_lenSl Tryz.underlying23 (by conv => lhs; whnf) Sl.au) (L_r (r_mv) ?_)
  refine L_r (r_lenSl Tryz.underlying23 (by conv => lhs; whnf) Sl.au) (L_r (r_neq rfl rfl) (L_nil ?_))
  refine W_if rfl (fun h10 => ?_) (fun h10 => ?_)
  ·
   refine W_seq (W_region (L_r (r_ab rfl) (L_nil (W_ret ?_))))
   refine ret1 (v := .bool _) rfl rfl ?_
   first
   | exact ⟨true, rfl, ⟨fun _ => List.ext_getElem (by omega) fun j h1 h2 => hn j h1 h2 (by omega), fun _ => rfl⟩, Ch.au⟩
   | exact ⟨false, rfl, ⟨fun h => absurd h (by decide), fun e => by subst e; omega⟩, Ch.au⟩
   | (have hpq : p ≠ q := by { intro e; subst e; first | exact h24 (by simp) | simp at h24 }
      exact ⟨false, rfl, ⟨fun h => absurd h (by decide), fun e => absurd (by subst e; rw [hp, hq]) hpq⟩, Ch.au⟩)
  ·
   refine W_skip (W_seq (W_seq (W_region (L_r (r_mv) ?_))))
   refine L_r (r_lenSl Tryz.underlying23 (by conv => lhs; whnf) Sl.au) (L_r (r_mi rfl) (L_nil (W_block ?_)))
   refine W_loopF [0, 1, 12] (fun mz_ f W => ∃ (i : Nat), f 13 = .int .i64 i ∧ (i ≤ x.length ∧ (∀ j (h1 : j < x.length) (h2 : j < y.length), j < i → x[j] = y[j]) ∧ Nw w0 W) ∧ mz_ = x.length - i) ?_ ?_
   ·
    refine ⟨_, 0, rfl, ?_, rfl⟩
    exact ⟨by omega, fun j h1 h2 hji => absurd hji (by omega), Ch.au⟩
   rintro m0 g0 w1 ⟨i, hf13, hR0, rfl⟩
   refine W_as 13 hf13 rfl ?_
   clear hf13
   obtain ⟨hi, hn, hnw⟩ := hR0
   have hz := hnw.size
   refine W_seq (W_region (L_r (r_lss rfl rfl) (L_nil (W_seq ?_))))
   refine W_if rfl (fun h14 => ?_) (fun h14 => ?_)
   ·
    have hil : i < x.length := by omega
    have hil2 : i < y.length := by omega
    have hrp := cellsCF_row x i hil
    have hrq := cellsCF_row y i hil2
    obtain ⟨p, hp⟩ : ∃ p, p = x[i] := ⟨_, rfl⟩
    obtain ⟨q, hq⟩ : ∃ q, q = y[i] := ⟨_, rfl⟩
    rw [← hp] at hrp
    rw [← hq] at hrq
    refine W_skip (W_seq (W_block (W_seq (W_region (L_r (r_mi rfl) (L_r (r_ai rfl) (L_nil (W_seq ?_))))))))
    refine W_draw (fun W => Sl W va 3 x.length (cellsCF x) ∧ Sl W vb 3 y.length (cellsCF y)) 9 (m := 9) (by kernel_rfl) rfl (fun w2 c2 hs2 => ?_)
    refine held (by exact ⟨Sl.au, Sl.au⟩) (fun hS => ?_)
    refine D_t 0 rfl (fun W hW => r_mv) ?_
    refine D_t 1 rfl (fun W hW => r_mi rfl) ?_
    refine D_t 2 rfl (fun W hW => r_ix Tryz.underlying23 (show _ = some 3 from rfl) (by conv => lhs; whnf) rfl (by first | exact hW.1 | exact hW.2)) ?_
    refine D_t 3 rfl (fun W hW => r_loadSlrow (us := [.string p.name, .string p.kind, .bool p.tr]) Tryz.underlying52 rfl rfl rfl rfl (by first | exact hW.1 | exact hW.2) (by exact hrp)) ?_
    refine D_t 4 rfl (fun W hW => r_mv) ?_
    refine D_t 5 rfl (fun W hW => r_mi rfl) ?_
    refine D_t 6 rfl (fun W hW => r_ix Tryz.underlying23 (show _ = some 3 from rfl) (by conv => lhs; whnf) rfl (by first | exact hW.1 | exact hW.2)) ?_
    refine D_t 7 rfl (fun W hW => r_loadSlrow (us := [.string q.name, .string q.kind, .bool q.tr]) Tryz.underlying52 rfl rfl rfl rfl (by first | exact hW.1 | exact hW.2) (by exact hrq)) ?_
    refine D_t 8 rfl (fun W hW => r_neqR (xs := #[.string _, .string _, .bool _]) (ys := #[.string _, .string _, .bool _]) rfl rfl (by kernel_rfl) (eqFld _ _ _ _ _ _ _)) ?_
    refine D_done (by kernel_rfl) ?_
    refine W_if rfl (fun h24 => ?_) (fun h24 => ?_)
    ·
     refine W_seq (W_region (L_r (r_ab rfl) (L_nil (W_ret ?_))))
     refine ret1 (v := .bool _) rfl rfl ?_
     first
     | exact ⟨true, rfl, ⟨fun _ => List.ext_getElem (by omega) fun j h1 h2 => hn j h1 h2 (by omega), fun _ => rfl⟩, Ch.au⟩
     | exact ⟨false, rfl, ⟨fun h => absurd h (by decide), fun e => by subst e; omega⟩, Ch.au⟩
     | (have hpq : p ≠ q := by { intro e; subst e; first | exact h24 (by simp) | simp at h24 }
        exact ⟨false, rfl, ⟨fun h => absurd h (by decide), fun e => absurd (by subst e; rw [hp, hq]) hpq⟩, Ch.au⟩)
    ·
     refine W_skip (W_region ?_)
     refine L_r (r_add rfl rfl (by first | exact wr_i64 (by omega) | rfl)) (L_r (r_mi rfl) (L_nil ?_))
     refine ⟨⟨fx2, fx2, fx2, trivial⟩, _, ?_, i + 1, rfl, ?_, rfl⟩
     · omega
     have hpq : p = q := by { have h : p.name = q.name ∧ p.kind = q.kind ∧ p.tr = q.tr := by { first | exact h24 | exact Classical.not_not.1 h24 | simpa using h24 }; cases p; cases q; simp_all }
     refine ⟨by omega, fun j h1 h2 hji => ?_, Ch.au⟩
     rcases Nat.lt_or_ge j i with h | h
     · exact hn j h1 h2 h
     ·
      have e : j = i := by omega
      subst e
      rw [← hp, ← hq]; exact hpq
   ·
    refine W_exit ?_
    repeat (first | refine blk_hit ?_ | refine blk_miss rfl ?_)
    refine W_seq (W_region (L_r (r_ab rfl) (L_nil (W_ret ?_))))
    refine ret1 (v := .bool _) rfl rfl ?_
    first
    | exact ⟨true, rfl, ⟨fun _ => List.ext_getElem (by omega) fun j h1 h2 => hn j h1 h2 (by omega), fun _ => rfl⟩, Ch.au⟩
    | exact ⟨false, rfl, ⟨fun h => absurd h (by decide), fun e => by subst e; omega⟩, Ch.au⟩
    | (have hpq : p ≠ q := by { intro e; subst e; first | exact h24 (by simp) | simp at h24 }
       exact ⟨false, rfl, ⟨fun h => absurd h (by decide), fun e => absurd (by subst e; rw [hp, hq]) hpq⟩, Ch.au⟩)
set_option maxHeartbeats 1000000 in
theorem eq_I (va vb : Value) (x y : List Ins) (w0 : World) (hva : Sl w0 va 3 x.length (cellsI x)) (hvb : Sl w0 vb 3 y.length (cellsI y)) (hl : x.length ≤ 1000000000000000) (hl2 : y.length ≤ 1000000000000000) : Does Tryz.prog 108 #[va, vb] w0 (fun r w' => ∃ b : Bool, r = .bool b ∧ (b = true ↔ x = y) ∧ Nw w0 w') := by
  refine fn_of (n := 26) (args := [va, vb]) Tryz.func108 rfl rfl rfl (W_seq (W_region (L_r (r_ab rfl) (L_nil (W_seq (W_seq (W_region (L_r (r_mv) ?_))))))))
  refine L_r (r_lenSl Tryz.underlying40 (by conv => lhs; whnf) Sl.au) (L_r (r_mv) ?_)
  refine L_r (r_lenSl Tryz.underlying40 (by conv => lhs; whnf) Sl.au) (L_r (r_neq rfl rfl) (L_nil ?_))
  refine W_if rfl (fun h10 => ?_) (fun h10 => ?_)
  ·
   refine W_seq (W_region (L_r (r_ab rfl) (L_nil (W_ret ?_))))
   refine ret1 (v := .bool _) rfl rfl ?_
   first
   | exact ⟨true, rfl, ⟨fun _ => List.ext_getElem (by omega) fun j h1 h2 => hn j h1 h2 (by omega), fun _ => rfl⟩, Ch.au⟩
   | exact ⟨false, rfl, ⟨fun h => absurd h (by decide), fun e => by subst e; omega⟩, Ch.au⟩
   | (have hpq : p ≠ q := by { intro e; subst e; first | exact h24 (by simp) | simp at h24 }
      exact ⟨false, rfl, ⟨fun h => absurd h (by decide), fun e => absurd (by subst e; rw [hp, hq]) hpq⟩, Ch.au⟩)
  ·
   refine W_skip (W_seq (W_seq (W_region (L_r (r_mv) ?_))))
   refine L_r (r_lenSl Tryz.underlying40 (by conv => lhs; whnf) Sl.au) (L_r (r_mi rfl) (L_nil (W_block ?_)))
   refine W_loopF [0, 1, 12] (fun mz_ f W => ∃ (i : Nat), f 13 = .int .i64 i ∧ (i ≤ x.length ∧ (∀ j (h1 : j < x.length) (h2 : j < y.length), j < i → x[j] = y[j]) ∧ Nw w0 W) ∧ mz_ = x.length - i) ?_ ?_
   ·
    refine ⟨_, 0, rfl, ?_, rfl⟩
    exact ⟨by omega, fun j h1 h2 hji => absurd hji (by omega), Ch.au⟩
   rintro m0 g0 w1 ⟨i, hf13, hR0, rfl⟩
   refine W_as 13 hf13 rfl ?_
   clear hf13
   obtain ⟨hi, hn, hnw⟩ := hR0
   have hz := hnw.size
   refine W_seq (W_region (L_r (r_lss rfl rfl) (L_nil (W_seq ?_))))
   refine W_if rfl (fun h14 => ?_) (fun h14 => ?_)
   ·
    have hil : i < x.length := by omega
    have hil2 : i < y.length := by omega
    have hrp := cellsI_row x i hil
    have hrq := cellsI_row y i hil2
    obtain ⟨p, hp⟩ : ∃ p, p = x[i] := ⟨_, rfl⟩
    obtain ⟨q, hq⟩ : ∃ q, q = y[i] := ⟨_, rfl⟩
    rw [← hp] at hrp
    rw [← hq] at hrq
    refine W_skip (W_seq (W_block (W_seq (W_region (L_r (r_mi rfl) (L_r (r_ai rfl) (L_nil (W_seq ?_))))))))
    refine W_draw (fun W => Sl W va 3 x.length (cellsI x) ∧ Sl W vb 3 y.length (cellsI y)) 9 (m := 9) (by kernel_rfl) rfl (fun w2 c2 hs2 => ?_)
    refine held (by exact ⟨Sl.au, Sl.au⟩) (fun hS => ?_)
    refine D_t 0 rfl (fun W hW => r_mv) ?_
    refine D_t 1 rfl (fun W hW => r_mi rfl) ?_
    refine D_t 2 rfl (fun W hW => r_ix Tryz.underlying40 (show _ = some 3 from rfl) (by conv => lhs; whnf) rfl (by first | exact hW.1 | exact hW.2)) ?_
    refine D_t 3 rfl (fun W hW => r_loadSlrow (us := [.string p.op, .int .i64 p.n, .string p.s]) Tryz.underlying54 rfl rfl rfl rfl (by first | exact hW.1 | exact hW.2) (by exact hrp)) ?_
    refine D_t 4 rfl (fun W hW => r_mv) ?_
    refine D_t 5 rfl (fun W hW => r_mi rfl) ?_
    refine D_t 6 rfl (fun W hW => r_ix Tryz.underlying40 (show _ = some 3 from rfl) (by conv => lhs; whnf) rfl (by first | exact hW.1 | exact hW.2)) ?_
    refine D_t 7 rfl (fun W hW => r_loadSlrow (us := [.string q.op, .int .i64 q.n, .string q.s]) Tryz.underlying54 rfl rfl rfl rfl (by first | exact hW.1 | exact hW.2) (by exact hrq)) ?_
    refine D_t 8 rfl (fun W hW => r_neqR (xs := #[.string _, .int _ _, .string _]) (ys := #[.string _, .int _ _, .string _]) rfl rfl (by kernel_rfl) (eqIns _ _ _ _ _ _ _)) ?_
    refine D_done (by kernel_rfl) ?_
    refine W_if rfl (fun h24 => ?_) (fun h24 => ?_)
    ·
     refine W_seq (W_region (L_r (r_ab rfl) (L_nil (W_ret ?_))))
     refine ret1 (v := .bool _) rfl rfl ?_
     first
     | exact ⟨true, rfl, ⟨fun _ => List.ext_getElem (by omega) fun j h1 h2 => hn j h1 h2 (by omega), fun _ => rfl⟩, Ch.au⟩
     | exact ⟨false, rfl, ⟨fun h => absurd h (by decide), fun e => by subst e; omega⟩, Ch.au⟩
     | (have hpq : p ≠ q := by { intro e; subst e; first | exact h24 (by simp) | simp at h24 }
        exact ⟨false, rfl, ⟨fun h => absurd h (by decide), fun e => absurd (by subst e; rw [hp, hq]) hpq⟩, Ch.au⟩)
    ·
     refine W_skip (W_region ?_)
     refine L_r (r_add rfl rfl (by first | exact wr_i64 (by omega) | rfl)) (L_r (r_mi rfl) (L_nil ?_))
     refine ⟨⟨fx2, fx2, fx2, trivial⟩, _, ?_, i + 1, rfl, ?_, rfl⟩
     · omega
     have hpq : p = q := by { have h : p.op = q.op ∧ p.n = q.n ∧ p.s = q.s := by { first | exact h24 | exact Classical.not_not.1 h24 | simpa using h24 }; cases p; cases q; simp_all }
     refine ⟨by omega, fun j h1 h2 hji => ?_, Ch.au⟩
     rcases Nat.lt_or_ge j i with h | h
     · exact hn j h1 h2 h
     ·
      have e : j = i := by omega
      subst e
      rw [← hp, ← hq]; exact hpq
   ·
    refine W_exit ?_
    repeat (first | refine blk_hit ?_ | refine blk_miss rfl ?_)
    refine W_seq (W_region (L_r (r_ab rfl) (L_nil (W_ret ?_))))
    refine ret1 (v := .bool _) rfl rfl ?_
    first
    | exact ⟨true, rfl, ⟨fun _ => List.ext_getElem (by omega) fun j h1 h2 => hn j h1 h2 (by omega), fun _ => rfl⟩, Ch.au⟩
    | exact ⟨false, rfl, ⟨fun h => absurd h (by decide), fun e => by subst e; omega⟩, Ch.au⟩
    | (have hpq : p ≠ q := by { intro e; subst e; first | exact h24 (by simp) | simp at h24 }
       exact ⟨false, rfl, ⟨fun h => absurd h (by decide), fun e => absurd (by subst e; rw [hp, hq]) hpq⟩, Ch.au⟩)
set_option maxHeartbeats 1000000 in
theorem eq_K (va vb : Value) (x y : List Cat) (w0 : World) (hva : Sl w0 va 4 x.length (cellsCK x)) (hvb : Sl w0 vb 4 y.length (cellsCK y)) (hl : x.length ≤ 1000000000000000) (hl2 : y.length ≤ 1000000000000000) : Does Tryz.prog 109 #[va, vb] w0 (fun r w' => ∃ b : Bool, r = .bool b ∧ (b = true ↔ x = y) ∧ Nw w0 w') := by
  refine fn_of (n := 26) (args := [va, vb]) Tryz.func109 rfl rfl rfl (W_seq (W_region (L_r (r_ab rfl) (L_nil (W_seq (W_seq (W_region (L_r (r_mv) ?_))))))))
  refine L_r (r_lenSl Tryz.underlying41 (by conv => lhs; whnf) Sl.au) (L_r (r_mv) ?_)
  refine L_r (r_lenSl Tryz.underlying41 (by conv => lhs; whnf) Sl.au) (L_r (r_neq rfl rfl) (L_nil ?_))
  refine W_if rfl (fun h10 => ?_) (fun h10 => ?_)
  ·
   refine W_seq (W_region (L_r (r_ab rfl) (L_nil (W_ret ?_))))
   refine ret1 (v := .bool _) rfl rfl ?_
   first
   | exact ⟨true, rfl, ⟨fun _ => List.ext_getElem (by omega) fun j h1 h2 => hn j h1 h2 (by omega), fun _ => rfl⟩, Ch.au⟩
   | exact ⟨false, rfl, ⟨fun h => absurd h (by decide), fun e => by subst e; omega⟩, Ch.au⟩
   | (have hpq : p ≠ q := by { intro e; subst e; first | exact h24 (by simp) | simp at h24 }
      exact ⟨false, rfl, ⟨fun h => absurd h (by decide), fun e => absurd (by subst e; rw [hp, hq]) hpq⟩, Ch.au⟩)
  ·
   refine W_skip (W_seq (W_seq (W_region (L_r (r_mv) ?_))))
   refine L_r (r_lenSl Tryz.underlying41 (by conv => lhs; whnf) Sl.au) (L_r (r_mi rfl) (L_nil (W_block ?_)))
   refine W_loopF [0, 1, 12] (fun mz_ f W => ∃ (i : Nat), f 13 = .int .i64 i ∧ (i ≤ x.length ∧ (∀ j (h1 : j < x.length) (h2 : j < y.length), j < i → x[j] = y[j]) ∧ Nw w0 W) ∧ mz_ = x.length - i) ?_ ?_
   ·
    refine ⟨_, 0, rfl, ?_, rfl⟩
    exact ⟨by omega, fun j h1 h2 hji => absurd hji (by omega), Ch.au⟩
   rintro m0 g0 w1 ⟨i, hf13, hR0, rfl⟩
   refine W_as 13 hf13 rfl ?_
   clear hf13
   obtain ⟨hi, hn, hnw⟩ := hR0
   have hz := hnw.size
   refine W_seq (W_region (L_r (r_lss rfl rfl) (L_nil (W_seq ?_))))
   refine W_if rfl (fun h14 => ?_) (fun h14 => ?_)
   ·
    have hil : i < x.length := by omega
    have hil2 : i < y.length := by omega
    have hrp := cellsCK_row x i hil
    have hrq := cellsCK_row y i hil2
    obtain ⟨p, hp⟩ : ∃ p, p = x[i] := ⟨_, rfl⟩
    obtain ⟨q, hq⟩ : ∃ q, q = y[i] := ⟨_, rfl⟩
    rw [← hp] at hrp
    rw [← hq] at hrq
    refine W_skip (W_seq (W_block (W_seq (W_region (L_r (r_mi rfl) (L_r (r_ai rfl) (L_nil (W_seq ?_))))))))
    refine W_draw (fun W => Sl W va 4 x.length (cellsCK x) ∧ Sl W vb 4 y.length (cellsCK y)) 9 (m := 9) (by kernel_rfl) rfl (fun w2 c2 hs2 => ?_)
    refine held (by exact ⟨Sl.au, Sl.au⟩) (fun hS => ?_)
    refine D_t 0 rfl (fun W hW => r_mv) ?_
    refine D_t 1 rfl (fun W hW => r_mi rfl) ?_
    refine D_t 2 rfl (fun W hW => r_ix Tryz.underlying41 (show _ = some 4 from rfl) (by conv => lhs; whnf) rfl (by first | exact hW.1 | exact hW.2)) ?_
    refine D_t 3 rfl (fun W hW => r_loadSlrow (us := [.int .i64 p.fr, .int .i64 p.tt, .int .i64 p.aa, .string p.cls]) Tryz.underlying70 rfl rfl rfl rfl (by first | exact hW.1 | exact hW.2) (by exact hrp)) ?_
    refine D_t 4 rfl (fun W hW => r_mv) ?_
    refine D_t 5 rfl (fun W hW => r_mi rfl) ?_
    refine D_t 6 rfl (fun W hW => r_ix Tryz.underlying41 (show _ = some 4 from rfl) (by conv => lhs; whnf) rfl (by first | exact hW.1 | exact hW.2)) ?_
    refine D_t 7 rfl (fun W hW => r_loadSlrow (us := [.int .i64 q.fr, .int .i64 q.tt, .int .i64 q.aa, .string q.cls]) Tryz.underlying70 rfl rfl rfl rfl (by first | exact hW.1 | exact hW.2) (by exact hrq)) ?_
    refine D_t 8 rfl (fun W hW => r_neqR (xs := #[.int _ _, .int _ _, .int _ _, .string _]) (ys := #[.int _ _, .int _ _, .int _ _, .string _]) rfl rfl (by kernel_rfl) (eqCat _ _ _ _ _ _ _ _ _)) ?_
    refine D_done (by kernel_rfl) ?_
    refine W_if rfl (fun h24 => ?_) (fun h24 => ?_)
    ·
     refine W_seq (W_region (L_r (r_ab rfl) (L_nil (W_ret ?_))))
     refine ret1 (v := .bool _) rfl rfl ?_
     first
     | exact ⟨true, rfl, ⟨fun _ => List.ext_getElem (by omega) fun j h1 h2 => hn j h1 h2 (by omega), fun _ => rfl⟩, Ch.au⟩
     | exact ⟨false, rfl, ⟨fun h => absurd h (by decide), fun e => by subst e; omega⟩, Ch.au⟩
     | (have hpq : p ≠ q := by { intro e; subst e; first | exact h24 (by simp) | simp at h24 }
        exact ⟨false, rfl, ⟨fun h => absurd h (by decide), fun e => absurd (by subst e; rw [hp, hq]) hpq⟩, Ch.au⟩)
    ·
     refine W_skip (W_region ?_)
     refine L_r (r_add rfl rfl (by first | exact wr_i64 (by omega) | rfl)) (L_r (r_mi rfl) (L_nil ?_))
     refine ⟨⟨fx2, fx2, fx2, trivial⟩, _, ?_, i + 1, rfl, ?_, rfl⟩
     · omega
     have hpq : p = q := by { have h : p.fr = q.fr ∧ p.tt = q.tt ∧ p.aa = q.aa ∧ p.cls = q.cls := by { first | exact h24 | exact Classical.not_not.1 h24 | simpa using h24 }; cases p; cases q; simp_all }
     refine ⟨by omega, fun j h1 h2 hji => ?_, Ch.au⟩
     rcases Nat.lt_or_ge j i with h | h
     · exact hn j h1 h2 h
     ·
      have e : j = i := by omega
      subst e
      rw [← hp, ← hq]; exact hpq
   ·
    refine W_exit ?_
    repeat (first | refine blk_hit ?_ | refine blk_miss rfl ?_)
    refine W_seq (W_region (L_r (r_ab rfl) (L_nil (W_ret ?_))))
    refine ret1 (v := .bool _) rfl rfl ?_
    first
    | exact ⟨true, rfl, ⟨fun _ => List.ext_getElem (by omega) fun j h1 h2 => hn j h1 h2 (by omega), fun _ => rfl⟩, Ch.au⟩
    | exact ⟨false, rfl, ⟨fun h => absurd h (by decide), fun e => by subst e; omega⟩, Ch.au⟩
    | (have hpq : p ≠ q := by { intro e; subst e; first | exact h24 (by simp) | simp at h24 }
       exact ⟨false, rfl, ⟨fun h => absurd h (by decide), fun e => absurd (by subst e; rw [hp, hq]) hpq⟩, Ch.au⟩)
end Go.Proofs.YthpknpfhpkkheaaGreatDoor

namespace Go.Proofs.YthpknpfhpkkheaaGreatDoor
open Go Go.RowKit
set_option linter.unusedVariables false
set_option linter.unusedSimpArgs false
set_option maxRecDepth 100000
theorem mth_iff (a b : Mth) : a = b ↔ a.name = b.name ∧ a.result = b.result ∧ a.abs = b.abs ∧ a.locals = b.locals ∧ a.params = b.params ∧ a.code = b.code ∧ a.cats = b.cats := by
  constructor
  · rintro rfl; exact ⟨rfl, rfl, rfl, rfl, rfl, rfl, rfl⟩
  · rintro ⟨h1, h2, h3, h4, h5, h6, h7⟩; cases a; cases b; simp_all
theorem cls_eq (a b : Cls) : a = b ↔ a.name = b.name ∧ a.super = b.super ∧ a.ifc = b.ifc ∧ a.abs = b.abs ∧ a.fin = b.fin ∧ a.like = b.like ∧ a.fields = b.fields ∧ a.ms = b.ms := by
  constructor
  · rintro rfl; exact ⟨rfl, rfl, rfl, rfl, rfl, rfl, rfl, rfl⟩
  · rintro ⟨h1, h2, h3, h4, h5, h6, h7, h8⟩; cases a; cases b; simp_all
set_option maxHeartbeats 1000000 in
theorem samem_walk (x y : MM) (w0 : World) (hx : x.ok w0) (hy : y.ok w0) (hs : x.m.sz) (ht : y.m.sz) : Does Tryz.prog 47 #[x.v, y.v] w0 (fun r w' => ∃ b : Bool, r = .bool b ∧ (b = true ↔ x.m = y.m) ∧ Nw w0 w') := by
  have h1x := hx.one
  have h1y := hy.one
  have hxw := fun W (c : Nw w0 W) => hx.nw c
  have hyw := fun W (c : Nw w0 W) => hy.nw c
  have key := mth_iff x.m y.m
  have hl1 := hs.lp
  have hl2 := hs.lc
  have hl3 := hs.lk
  have hm1 := ht.lp
  have hm2 := ht.lc
  have hm3 := ht.lk
  refine fn_of (n := 52) (args := [x.v, y.v]) Tryz.func47 rfl rfl rfl (W_seq (W_region ?_))
  refine L_new (.plain rfl) rfl rfl (r_boxa rfl) (fun w1 b2 hb2 eb1 hs1 c1 => ?_)
  refine L_new (.plain rfl) rfl rfl (r_boxa rfl) (fun w2 b3 hb3 eb2 hs2 c2 => (L_r (r_ab rfl) (L_nil (W_seq (W_region ?_)))))
  refine L_r (r_fieldb Tryz.underlying43 rfl (show _ = some 1 from rfl) rfl rfl (show _ = 0 from rfl)) (L_r (r_lb rfl rfl) ?_)
  refine L_r (r_fieldb Tryz.underlying43 rfl (show _ = some 1 from rfl) rfl rfl (show _ = 0 from rfl)) (L_r (r_lb rfl rfl) (L_r (r_eqls rfl rfl) (L_r (r_mb rfl) ?_)))
  refine L_case (d := 10) rfl (fun h10 => ?_) (fun h10 => ?_)
  ·
   refine L_g (r_fieldb Tryz.underlying43 rfl (show _ = some 1 from rfl) rfl rfl (show _ = 2 from rfl)) ?_
   refine L_g (r_lb rfl rfl) ?_
   refine L_g (r_fieldb Tryz.underlying43 rfl (show _ = some 1 from rfl) rfl rfl (show _ = 2 from rfl)) ?_
   refine L_g (r_lb rfl rfl) ?_
   refine L_g (r_eqls rfl rfl) (L_r (r_pt rfl rfl) (L_r (r_mb rfl) ?_))
   refine L_case (d := 17) rfl (fun h17 => ?_) (fun h17 => ?_)
   ·
    refine L_g (r_fieldb Tryz.underlying43 rfl (show _ = some 1 from rfl) rfl rfl (show _ = 3 from rfl)) ?_
    refine L_g (r_lb rfl rfl) ?_
    refine L_g (r_fieldb Tryz.underlying43 rfl (show _ = some 1 from rfl) rfl rfl (show _ = 3 from rfl)) ?_
    refine L_g (r_lb rfl rfl) ?_
    refine L_g (r_eqlb Tryz.underlying4 rfl rfl) (L_r (r_pt rfl rfl) (L_r (r_mb rfl) ?_))
    refine L_case (d := 24) rfl (fun h24 => ?_) (fun h24 => ?_)
    ·
     refine L_g (r_fieldb Tryz.underlying43 rfl (show _ = some 1 from rfl) rfl rfl (show _ = 4 from rfl)) ?_
     refine L_g (r_lb rfl rfl) ?_
     refine L_g (r_fieldb Tryz.underlying43 rfl (show _ = some 1 from rfl) rfl rfl (show _ = 4 from rfl)) ?_
     refine L_g (r_lb rfl rfl) ?_
     refine L_g (r_eql rfl rfl) (L_r (r_pt rfl rfl) (L_r (r_mb rfl) ?_))
     refine L_case (d := 31) rfl (fun h31 => ?_) (fun h31 => ?_)
     ·
      refine L_g (r_fieldb Tryz.underlying43 rfl (show _ = some 1 from rfl) rfl rfl (show _ = 1 from rfl)) ?_
      refine L_g (r_lb rfl rfl) ?_
      refine L_g (r_fieldb Tryz.underlying43 rfl (show _ = some 1 from rfl) rfl rfl (show _ = 1 from rfl)) ?_
      refine L_g (r_lb rfl rfl) ?_
      refine L_call (.yes 26 true rfl rfl) rfl rfl (r_call Tryz.func44 rfl rfl rfl (by rfl)) (eq_S x.vp y.vp x.m.params y.m.params _ (hxw _ Ch.au).p (hyw _ Ch.au).p hl1 hm1) ?_
      rintro v36 w3 ⟨bp, rfl, hbp, c3⟩
      have hz3 := c3.size
      refine L_r (r_pt rfl rfl) (L_r (r_mb rfl) ?_)
      refine L_caseb (d := 38) rfl (fun h38 => ?_) (fun h38 => ?_)
      ·
       refine L_g (r_fieldb Tryz.underlying43 rfl (show _ = some 1 from rfl) rfl rfl (show _ = 5 from rfl)) ?_
       refine L_g (r_lb rfl rfl) ?_
       refine L_g (r_fieldb Tryz.underlying43 rfl (show _ = some 1 from rfl) rfl rfl (show _ = 5 from rfl)) ?_
       refine L_g (r_lb rfl rfl) ?_
       refine L_call (.yes 33 true rfl rfl) rfl rfl (r_call Tryz.func108 rfl rfl rfl (by rfl)) (eq_I x.vc y.vc x.m.code y.m.code _ (hxw _ Ch.au).c (hyw _ Ch.au).c hl2 hm2) ?_
       rintro v43 w4 ⟨bc, rfl, hbc, c4⟩
       have hz4 := c4.size
       refine L_r (r_pt rfl rfl) (L_r (r_mb rfl) ?_)
       refine L_caseb (d := 45) rfl (fun h45 => ?_) (fun h45 => ?_)
       ·
        refine L_g (r_fieldb Tryz.underlying43 rfl (show _ = some 1 from rfl) rfl rfl (show _ = 6 from rfl)) ?_
        refine L_g (r_lb rfl rfl) ?_
        refine L_g (r_fieldb Tryz.underlying43 rfl (show _ = some 1 from rfl) rfl rfl (show _ = 6 from rfl)) ?_
        refine L_g (r_lb rfl rfl) ?_
        refine L_call (.yes 40 true rfl rfl) rfl rfl (r_call Tryz.func109 rfl rfl rfl (by rfl)) (eq_K x.vk y.vk x.m.cats y.m.cats _ (hxw _ Ch.au).k (hyw _ Ch.au).k hl3 hm3) ?_
        rintro v50 w5 ⟨bk, rfl, hbk, c5⟩
        have hz5 := c5.size
        refine L_r (r_pt rfl rfl) (L_r (r_ab rfl) (L_nil (W_ret ?_)))
        refine ret1 (v := .bool _) rfl rfl ?_
        refine ⟨_, rfl, ?_, Ch.au⟩
        rw [key]
        clear key hxw hyw hl1 hl2 hl3 hm1 hm2 hm3
        simp_all
       ·
        refine L_ps (L_ps (L_ps (L_ps (L_ps (L_r (r_pf rfl rfl) (L_r (r_ab rfl) (L_nil (W_ret ?_))))))))
        refine ret1 (v := .bool _) rfl rfl ?_
        refine ⟨_, rfl, ?_, Ch.au⟩
        rw [key]
        clear key hxw hyw hl1 hl2 hl3 hm1 hm2 hm3
        simp_all
      ·
       refine L_ps (L_ps (L_ps (L_ps (L_ps (L_r (r_pf rfl rfl) (L_r (r_mb rfl) (L_ps (L_ps ?_))))))))
       refine L_ps (L_ps (L_ps (L_r (r_pf rfl rfl) (L_r (r_ab rfl) (L_nil (W_ret ?_))))))
       refine ret1 (v := .bool _) rfl rfl ?_
       refine ⟨_, rfl, ?_, Ch.au⟩
       rw [key]
       clear key hxw hyw hl1 hl2 hl3 hm1 hm2 hm3
       simp_all
     ·
      refine L_ps (L_ps (L_ps (L_ps (L_ps (L_r (r_pf rfl rfl) (L_r (r_mb rfl) (L_ps (L_ps ?_))))))))
      refine L_ps (L_ps (L_ps (L_r (r_pf rfl rfl) (L_r (r_mb rfl) (L_ps (L_ps (L_ps (L_ps ?_))))))))
      refine L_ps (L_r (r_pf rfl rfl) (L_r (r_ab rfl) (L_nil (W_ret ?_))))
      refine ret1 (v := .bool _) rfl rfl ?_
      refine ⟨_, rfl, ?_, Ch.au⟩
      rw [key]
      clear key hxw hyw hl1 hl2 hl3 hm1 hm2 hm3
      simp_all
    ·
     refine L_ps (L_ps (L_ps (L_ps (L_ps (L_r (r_pf rfl rfl) (L_r (r_mb rfl) (L_ps (L_ps ?_))))))))
     refine L_ps (L_ps (L_ps (L_r (r_pf rfl rfl) (L_r (r_mb rfl) (L_ps (L_ps (L_ps (L_ps ?_))))))))
     refine L_ps (L_r (r_pf rfl rfl) (L_r (r_mb rfl) (L_ps (L_ps (L_ps (L_ps (L_ps (L_r (r_pf rfl rfl) ?_))))))))
     refine L_r (r_ab rfl) (L_nil (W_ret ?_))
     refine ret1 (v := .bool _) rfl rfl ?_
     refine ⟨_, rfl, ?_, Ch.au⟩
     rw [key]
     clear key hxw hyw hl1 hl2 hl3 hm1 hm2 hm3
     simp_all
   ·
    refine L_ps (L_ps (L_ps (L_ps (L_ps (L_r (r_pf rfl rfl) (L_r (r_mb rfl) (L_ps (L_ps ?_))))))))
    refine L_ps (L_ps (L_ps (L_r (r_pf rfl rfl) (L_r (r_mb rfl) (L_ps (L_ps (L_ps (L_ps ?_))))))))
    refine L_ps (L_r (r_pf rfl rfl) (L_r (r_mb rfl) (L_ps (L_ps (L_ps (L_ps (L_ps (L_r (r_pf rfl rfl) ?_))))))))
    refine L_r (r_mb rfl) (L_ps (L_ps (L_ps (L_ps (L_ps (L_r (r_pf rfl rfl) (L_r (r_ab rfl) (L_nil ?_))))))))
    refine W_ret ?_
    refine ret1 (v := .bool _) rfl rfl ?_
    refine ⟨_, rfl, ?_, Ch.au⟩
    rw [key]
    clear key hxw hyw hl1 hl2 hl3 hm1 hm2 hm3
    simp_all
  ·
   refine L_ps (L_ps (L_ps (L_ps (L_ps (L_r (r_pf rfl rfl) (L_r (r_mb rfl) (L_ps (L_ps ?_))))))))
   refine L_ps (L_ps (L_ps (L_r (r_pf rfl rfl) (L_r (r_mb rfl) (L_ps (L_ps (L_ps (L_ps ?_))))))))
   refine L_ps (L_r (r_pf rfl rfl) (L_r (r_mb rfl) (L_ps (L_ps (L_ps (L_ps (L_ps (L_r (r_pf rfl rfl) ?_))))))))
   refine L_r (r_mb rfl) (L_ps (L_ps (L_ps (L_ps (L_ps (L_r (r_pf rfl rfl) (L_r (r_mb rfl) (L_ps ?_))))))))
   refine L_ps (L_ps (L_ps (L_ps (L_r (r_pf rfl rfl) (L_r (r_ab rfl) (L_nil (W_ret ?_)))))))
   refine ret1 (v := .bool _) rfl rfl ?_
   refine ⟨_, rfl, ?_, Ch.au⟩
   rw [key]
   clear key hxw hyw hl1 hl2 hl3 hm1 hm2 hm3
   simp_all
set_option maxHeartbeats 1000000 in
theorem eqf_walk (va vb : Value) (x y : List MM) (fid : Nat) (w0 : World) (hva : Sl w0 va 7 x.length (cellsCM x)) (hvb : Sl w0 vb 7 y.length (cellsCM y)) (hl : x.length ≤ 1000000000000000) (hl2 : y.length ≤ 1000000000000000) (hxo : ∀ a ∈ x, a.ok w0) (hyo : ∀ a ∈ y, a.ok w0) (hK : Knows Tryz.prog fid) (hcl : ∀ a ∈ x, ∀ b ∈ y, ∀ W, Nw w0 W → Does Tryz.prog fid #[a.v, b.v] W (fun r w' => ∃ c : Bool, r = .bool c ∧ (c = true ↔ a.m = b.m) ∧ Nw W w')) : Does Tryz.prog 46 #[va, vb, .func (.func fid) #[] #[]] w0 (fun r w' => ∃ b : Bool, r = .bool b ∧ (b = true ↔ x.map MM.m = y.map MM.m) ∧ Nw w0 w') := by
  refine fn_of (n := 32) (args := [va, vb, .func (.func fid) #[] #[]]) Tryz.func46 rfl rfl rfl (W_seq (W_region (L_r (r_ab rfl) (L_nil (W_seq (W_seq (W_region (L_r (r_mv) ?_))))))))
  refine L_r (r_lenSl Tryz.underlying24 (by conv => lhs; whnf) Sl.au) (L_r (r_mv) ?_)
  refine L_r (r_lenSl Tryz.underlying24 (by conv => lhs; whnf) Sl.au) (L_r (r_neq rfl rfl) (L_nil ?_))
  refine W_if rfl (fun h14 => ?_) (fun h14 => ?_)
  ·
   refine W_seq (W_region (L_r (r_ab rfl) (L_nil (W_ret ?_))))
   refine ret1 (v := .bool _) rfl rfl ?_
   first
   | exact ⟨true, rfl, ⟨fun _ => List.ext_getElem (by rw [List.length_map, List.length_map]; omega) fun j h1 h2 => by rw [List.getElem_map, List.getElem_map]; rw [List.length_map] at h1 h2; exact hn j h1 h2 (by omega), fun _ => rfl⟩, Ch.au⟩
   | exact ⟨false, rfl, ⟨fun h => absurd h (by decide), fun e => by have e2 := congrArg List.length e; rw [List.length_map, List.length_map] at e2; omega⟩, Ch.au⟩
   | (have hb0 : bb = false := by simpa using h30
      have hpq : ¬ p.m = q.m := fun e => by have k := hbb.2 e; rw [hb0] at k; cases k
      refine ⟨false, rfl, ⟨fun h => absurd h (by decide), fun e => absurd ?_ hpq⟩, Ch.au⟩
      have e2 : (x.map MM.m)[i]'(by rw [List.length_map]; exact hil) = (y.map MM.m)[i]'(by rw [List.length_map]; exact hil2) := by simp only [e]
      rw [List.getElem_map, List.getElem_map, ← hp, ← hq] at e2
      exact e2)
  ·
   refine W_skip (W_seq (W_seq (W_region (L_r (r_mv) ?_))))
   refine L_r (r_lenSl Tryz.underlying24 (by conv => lhs; whnf) Sl.au) (L_r (r_mi rfl) (L_nil (W_block ?_)))
   refine W_loopF [1, 2, 15, 16] (fun mz_ f W => ∃ (i : Nat), f 17 = .int .i64 i ∧ (i ≤ x.length ∧ (∀ j (h1 : j < x.length) (h2 : j < y.length), j < i → x[j].m = y[j].m) ∧ Nw w0 W) ∧ mz_ = x.length - i) ?_ ?_
   ·
    refine ⟨_, 0, rfl, ?_, rfl⟩
    exact ⟨by omega, fun j h1 h2 hji => absurd hji (by omega), Ch.au⟩
   rintro m0 g0 w1 ⟨i, hf17, hR0, rfl⟩
   refine W_as 17 hf17 rfl ?_
   clear hf17
   obtain ⟨hi, hn, hnw⟩ := hR0
   have hz := hnw.size
   refine W_seq (W_region (L_r (r_lss rfl rfl) (L_nil (W_seq ?_))))
   refine W_if rfl (fun h18 => ?_) (fun h18 => ?_)
   ·
    have hil : i < x.length := by omega
    have hil2 : i < y.length := by omega
    have hrp := cellsCM_row x i hil
    have hrq := cellsCM_row y i hil2
    have hpm := List.getElem_mem hil
    have hqm := List.getElem_mem hil2
    obtain ⟨p, hp⟩ : ∃ p, p = x[i] := ⟨_, rfl⟩
    obtain ⟨q, hq⟩ : ∃ q, q = y[i] := ⟨_, rfl⟩
    rw [← hp] at hrp hpm
    rw [← hq] at hrq hqm
    have h1p := (hxo p hpm).one
    have h1q := (hyo q hqm).one
    refine W_skip (W_seq (W_block (W_seq (W_region (L_r (r_mi rfl) ?_)))))
    refine L_r (r_ix Tryz.underlying24 (show _ = some 7 from rfl) (by conv => lhs; whnf) rfl Sl.au) ?_
    refine L_r (r_loadSlrow (us := [.string p.m.name, p.vp, .string p.m.result, .bool p.m.abs, .int .i64 p.m.locals, p.vc, p.vk]) Tryz.underlying43 rfl rfl rfl rfl Sl.au (by exact hrp)) ?_
    refine L_new (.plain rfl) rfl rfl (r_alloca rfl) (fun w2 b8 hb8 eb2 hs2 c2 => (L_r (r_ai rfl) ?_))
    refine L_storerow (.plain rfl) rfl rfl Bk.au (by first | rfl | (simp; done) | assumption) (by first | rfl | assumption) (by first | rfl | (simp [Value.oneCell']; done) | assumption) (fun w3 hb3 hs3 c3 => (L_nil (W_seq (W_region (L_r (r_mv) (L_r (r_mi rfl) ?_))))))
    refine L_r (r_ix Tryz.underlying24 (show _ = some 7 from rfl) (by conv => lhs; whnf) rfl Sl.au) ?_
    refine L_r (r_loadSlrow (us := [.string q.m.name, q.vp, .string q.m.result, .bool q.m.abs, .int .i64 q.m.locals, q.vc, q.vk]) Tryz.underlying43 rfl rfl rfl rfl Sl.au (by exact hrq)) ?_
    refine L_new (.plain rfl) rfl rfl (r_alloca rfl) (fun w4 b9 hb9 eb4 hs4 c4 => ?_)
    refine L_storerow (.plain rfl) rfl rfl Bk.au (by first | rfl | (simp; done) | assumption) (by first | rfl | assumption) (by first | rfl | (simp [Value.oneCell']; done) | assumption) (fun w5 hb5 hs5 c5 => (L_nil (W_seq (W_region (L_r (r_mv) ?_)))))
    refine L_r (r_loadrow Tryz.underlying43 rfl rfl Bk.au (by first | rfl | assumption)) ?_
    refine L_r (r_loadrow Tryz.underlying43 rfl rfl Bk.au (by first | rfl | assumption)) ?_
    refine L_call (.plain rfl) rfl rfl (r_callv hK rfl (by rfl)) (hcl p hpm q hqm _ Ch.au) ?_
    rintro v29 w6 ⟨bb, rfl, hbb, c6⟩
    have hz6 := c6.size
    refine L_r (r_not rfl) (L_nil ?_)
    refine W_bool rfl (fun h30 => ?_) (fun h30 => ?_)
    ·
     refine W_seq (W_region (L_r (r_ab rfl) (L_nil (W_ret ?_))))
     refine ret1 (v := .bool _) rfl rfl ?_
     first
     | exact ⟨true, rfl, ⟨fun _ => List.ext_getElem (by rw [List.length_map, List.length_map]; omega) fun j h1 h2 => by rw [List.getElem_map, List.getElem_map]; rw [List.length_map] at h1 h2; exact hn j h1 h2 (by omega), fun _ => rfl⟩, Ch.au⟩
     | exact ⟨false, rfl, ⟨fun h => absurd h (by decide), fun e => by have e2 := congrArg List.length e; rw [List.length_map, List.length_map] at e2; omega⟩, Ch.au⟩
     | (have hb0 : bb = false := by simpa using h30
        have hpq : ¬ p.m = q.m := fun e => by have k := hbb.2 e; rw [hb0] at k; cases k
        refine ⟨false, rfl, ⟨fun h => absurd h (by decide), fun e => absurd ?_ hpq⟩, Ch.au⟩
        have e2 : (x.map MM.m)[i]'(by rw [List.length_map]; exact hil) = (y.map MM.m)[i]'(by rw [List.length_map]; exact hil2) := by simp only [e]
        rw [List.getElem_map, List.getElem_map, ← hp, ← hq] at e2
        exact e2)
    ·
     refine W_skip (W_region ?_)
     refine L_r (r_add rfl rfl (by first | exact wr_i64 (by omega) | rfl)) (L_r (r_mi rfl) (L_nil ?_))
     refine ⟨⟨fx2, fx2, fx2, fx2, trivial⟩, _, ?_, i + 1, rfl, ?_, rfl⟩
     · omega
     have hpq : p.m = q.m := hbb.1 (by simpa using h30)
     refine ⟨by omega, fun j h1 h2 hji => ?_, Ch.au⟩
     rcases Nat.lt_or_ge j i with h | h
     · exact hn j h1 h2 h
     ·
      have e : j = i := by omega
      subst e
      rw [← hp, ← hq]; exact hpq
   ·
    refine W_exit ?_
    repeat (first | refine blk_hit ?_ | refine blk_miss rfl ?_)
    refine W_seq (W_region (L_r (r_ab rfl) (L_nil (W_ret ?_))))
    refine ret1 (v := .bool _) rfl rfl ?_
    first
    | exact ⟨true, rfl, ⟨fun _ => List.ext_getElem (by rw [List.length_map, List.length_map]; omega) fun j h1 h2 => by rw [List.getElem_map, List.getElem_map]; rw [List.length_map] at h1 h2; exact hn j h1 h2 (by omega), fun _ => rfl⟩, Ch.au⟩
    | exact ⟨false, rfl, ⟨fun h => absurd h (by decide), fun e => by have e2 := congrArg List.length e; rw [List.length_map, List.length_map] at e2; omega⟩, Ch.au⟩
    | (have hb0 : bb = false := by simpa using h30
       have hpq : ¬ p.m = q.m := fun e => by have k := hbb.2 e; rw [hb0] at k; cases k
       refine ⟨false, rfl, ⟨fun h => absurd h (by decide), fun e => absurd ?_ hpq⟩, Ch.au⟩
       have e2 : (x.map MM.m)[i]'(by rw [List.length_map]; exact hil) = (y.map MM.m)[i]'(by rw [List.length_map]; exact hil2) := by simp only [e]
       rw [List.getElem_map, List.getElem_map, ← hp, ← hq] at e2
       exact e2)
set_option maxHeartbeats 1000000 in
theorem same_walk (x y : CC) (w0 : World) (hx : x.ok w0) (hy : y.ok w0) (hs : x.p.sz) (ht : y.p.sz) : Does Tryz.prog 21 #[x.v, y.v] w0 (fun r w' => ∃ b : Bool, r = .bool b ∧ (b = true ↔ x.p = y.p) ∧ Nw w0 w') := by
  have h1x := hx.one
  have h1y := hy.one
  have hxw := fun W (c : Nw w0 W) => hx.nw c
  have hyw := fun W (c : Nw w0 W) => hy.nw c
  have key := cls_eq x.p y.p
  have hql := q_len hx
  have hqm := q_len hy
  have hl1 := hs.ll
  have hl2 := hs.lf
  have hl3 := hs.lm
  have hm1 := ht.ll
  have hm2 := ht.lf
  have hm3 := ht.lm
  have hex := hx.e
  have hey := hy.e
  refine fn_of (n := 59) (args := [x.v, y.v]) Tryz.func21 rfl rfl rfl (W_seq (W_region ?_))
  refine L_new (.plain rfl) rfl rfl (r_boxa rfl) (fun w1 b2 hb2 eb1 hs1 c1 => ?_)
  refine L_new (.plain rfl) rfl rfl (r_boxa rfl) (fun w2 b3 hb3 eb2 hs2 c2 => (L_r (r_ab rfl) (L_nil (W_seq (W_region ?_)))))
  refine L_r (r_fieldb Tryz.underlying26 rfl (show _ = some 1 from rfl) rfl rfl (show _ = 0 from rfl)) (L_r (r_lb rfl rfl) ?_)
  refine L_r (r_fieldb Tryz.underlying26 rfl (show _ = some 1 from rfl) rfl rfl (show _ = 0 from rfl)) (L_r (r_lb rfl rfl) (L_r (r_eqls rfl rfl) (L_r (r_mb rfl) ?_)))
  refine L_case (d := 10) rfl (fun h10 => ?_) (fun h10 => ?_)
  ·
   refine L_g (r_fieldb Tryz.underlying26 rfl (show _ = some 1 from rfl) rfl rfl (show _ = 1 from rfl)) ?_
   refine L_g (r_lb rfl rfl) ?_
   refine L_g (r_fieldb Tryz.underlying26 rfl (show _ = some 1 from rfl) rfl rfl (show _ = 1 from rfl)) ?_
   refine L_g (r_lb rfl rfl) ?_
   refine L_g (r_eqls rfl rfl) (L_r (r_pt rfl rfl) (L_r (r_mb rfl) ?_))
   refine L_case (d := 17) rfl (fun h17 => ?_) (fun h17 => ?_)
   ·
    refine L_g (r_fieldb Tryz.underlying26 rfl (show _ = some 1 from rfl) rfl rfl (show _ = 3 from rfl)) ?_
    refine L_g (r_lb rfl rfl) ?_
    refine L_g (r_fieldb Tryz.underlying26 rfl (show _ = some 1 from rfl) rfl rfl (show _ = 3 from rfl)) ?_
    refine L_g (r_lb rfl rfl) ?_
    refine L_g (r_eqlb Tryz.underlying4 rfl rfl) (L_r (r_pt rfl rfl) (L_r (r_mb rfl) ?_))
    refine L_case (d := 24) rfl (fun h24 => ?_) (fun h24 => ?_)
    ·
     refine L_g (r_fieldb Tryz.underlying26 rfl (show _ = some 1 from rfl) rfl rfl (show _ = 4 from rfl)) ?_
     refine L_g (r_lb rfl rfl) ?_
     refine L_g (r_fieldb Tryz.underlying26 rfl (show _ = some 1 from rfl) rfl rfl (show _ = 4 from rfl)) ?_
     refine L_g (r_lb rfl rfl) ?_
     refine L_g (r_eqlb Tryz.underlying4 rfl rfl) (L_r (r_pt rfl rfl) (L_r (r_mb rfl) ?_))
     refine L_case (d := 31) rfl (fun h31 => ?_) (fun h31 => ?_)
     ·
      refine L_g (r_fieldb Tryz.underlying26 rfl (show _ = some 1 from rfl) rfl rfl (show _ = 5 from rfl)) ?_
      refine L_g (r_lb rfl rfl) ?_
      refine L_g (r_fieldb Tryz.underlying26 rfl (show _ = some 1 from rfl) rfl rfl (show _ = 5 from rfl)) ?_
      refine L_g (r_lb rfl rfl) ?_
      refine L_g (r_eqlb Tryz.underlying4 rfl rfl) (L_r (r_pt rfl rfl) (L_r (r_mb rfl) ?_))
      refine L_case (d := 38) rfl (fun h38 => ?_) (fun h38 => ?_)
      ·
       refine L_g (r_fieldb Tryz.underlying26 rfl (show _ = some 1 from rfl) rfl rfl (show _ = 2 from rfl)) ?_
       refine L_g (r_lb rfl rfl) ?_
       refine L_g (r_fieldb Tryz.underlying26 rfl (show _ = some 1 from rfl) rfl rfl (show _ = 2 from rfl)) ?_
       refine L_g (r_lb rfl rfl) ?_
       refine L_call (.yes 33 true rfl rfl) rfl rfl (r_call Tryz.func44 rfl rfl rfl (by rfl)) (eq_S x.vl y.vl x.p.like y.p.like _ (hxw _ Ch.au).l (hyw _ Ch.au).l (by omega) (by omega)) ?_
       rintro v43 w3 ⟨bp, rfl, hbp, c3⟩
       have hz3 := c3.size
       refine L_r (r_pt rfl rfl) (L_r (r_mb rfl) ?_)
       refine L_caseb (d := 45) rfl (fun h45 => ?_) (fun h45 => ?_)
       ·
        refine L_g (r_fieldb Tryz.underlying26 rfl (show _ = some 1 from rfl) rfl rfl (show _ = 6 from rfl)) ?_
        refine L_g (r_lb rfl rfl) ?_
        refine L_g (r_fieldb Tryz.underlying26 rfl (show _ = some 1 from rfl) rfl rfl (show _ = 6 from rfl)) ?_
        refine L_g (r_lb rfl rfl) ?_
        refine L_call (.yes 40 true rfl rfl) rfl rfl (r_call Tryz.func45 rfl rfl rfl (by rfl)) (eq_F x.vf y.vf x.p.fields y.p.fields _ (hxw _ Ch.au).f (hyw _ Ch.au).f (by omega) (by omega)) ?_
        rintro v50 w4 ⟨bc, rfl, hbc, c4⟩
        have hz4 := c4.size
        refine L_r (r_pt rfl rfl) (L_r (r_mb rfl) ?_)
        refine L_caseb (d := 52) rfl (fun h52 => ?_) (fun h52 => ?_)
        ·
         refine L_g (r_fieldb Tryz.underlying26 rfl (show _ = some 1 from rfl) rfl rfl (show _ = 7 from rfl)) ?_
         refine L_g (r_lb rfl rfl) ?_
         refine L_g (r_fieldb Tryz.underlying26 rfl (show _ = some 1 from rfl) rfl rfl (show _ = 7 from rfl)) ?_
         refine L_g (r_lb rfl rfl) ?_
         refine L_call (.yes 47 true rfl rfl) rfl rfl (r_call Tryz.func46 rfl rfl rfl (by rfl)) (eqf_walk x.vm y.vm x.q y.q 47 _ (hxw _ Ch.au).m (hyw _ Ch.au).m (by omega) (by omega) (hxw _ Ch.au).ms (hyw _ Ch.au).ms ⟨_, _, Tryz.func47, rfl, rfl⟩ (fun a ha b hb W k => samem_walk a b W ((hxw W Ch.au).ms a ha) ((hyw W Ch.au).ms b hb) (hs.ms _ (q_mem hx ha)) (ht.ms _ (q_mem hy hb)))) ?_
         rintro v57 w5 ⟨bk, rfl, hbk, c5⟩
         have hz5 := c5.size
         rw [hex, hey] at hbk
         refine L_r (r_pt rfl rfl) (L_r (r_ab rfl) (L_nil (W_ret ?_)))
         refine ret1 (v := .bool _) rfl rfl ?_
         refine ⟨_, rfl, ?_, Ch.au⟩
         rw [key]
         clear key hxw hyw hl1 hl2 hl3 hm1 hm2 hm3 hex hey hql hqm
         simp_all
        ·
         refine L_ps (L_ps (L_ps (L_ps (L_ps (L_r (r_pf rfl rfl) (L_r (r_ab rfl) (L_nil (W_ret ?_))))))))
         refine ret1 (v := .bool _) rfl rfl ?_
         refine ⟨_, rfl, ?_, Ch.au⟩
         rw [key]
         clear key hxw hyw hl1 hl2 hl3 hm1 hm2 hm3 hex hey hql hqm
         simp_all
       ·
        refine L_ps (L_ps (L_ps (L_ps (L_ps (L_r (r_pf rfl rfl) (L_r (r_mb rfl) (L_ps (L_ps ?_))))))))
        refine L_ps (L_ps (L_ps (L_r (r_pf rfl rfl) (L_r (r_ab rfl) (L_nil (W_ret ?_))))))
        refine ret1 (v := .bool _) rfl rfl ?_
        refine ⟨_, rfl, ?_, Ch.au⟩
        rw [key]
        clear key hxw hyw hl1 hl2 hl3 hm1 hm2 hm3 hex hey hql hqm
        simp_all
      ·
       refine L_ps (L_ps (L_ps (L_ps (L_ps (L_r (r_pf rfl rfl) (L_r (r_mb rfl) (L_ps (L_ps ?_))))))))
       refine L_ps (L_ps (L_ps (L_r (r_pf rfl rfl) (L_r (r_mb rfl) (L_ps (L_ps (L_ps (L_ps ?_))))))))
       refine L_ps (L_r (r_pf rfl rfl) (L_r (r_ab rfl) (L_nil (W_ret ?_))))
       refine ret1 (v := .bool _) rfl rfl ?_
       refine ⟨_, rfl, ?_, Ch.au⟩
       rw [key]
       clear key hxw hyw hl1 hl2 hl3 hm1 hm2 hm3 hex hey hql hqm
       simp_all
     ·
      refine L_ps (L_ps (L_ps (L_ps (L_ps (L_r (r_pf rfl rfl) (L_r (r_mb rfl) (L_ps (L_ps ?_))))))))
      refine L_ps (L_ps (L_ps (L_r (r_pf rfl rfl) (L_r (r_mb rfl) (L_ps (L_ps (L_ps (L_ps ?_))))))))
      refine L_ps (L_r (r_pf rfl rfl) (L_r (r_mb rfl) (L_ps (L_ps (L_ps (L_ps (L_ps (L_r (r_pf rfl rfl) ?_))))))))
      refine L_r (r_ab rfl) (L_nil (W_ret ?_))
      refine ret1 (v := .bool _) rfl rfl ?_
      refine ⟨_, rfl, ?_, Ch.au⟩
      rw [key]
      clear key hxw hyw hl1 hl2 hl3 hm1 hm2 hm3 hex hey hql hqm
      simp_all
    ·
     refine L_ps (L_ps (L_ps (L_ps (L_ps (L_r (r_pf rfl rfl) (L_r (r_mb rfl) (L_ps (L_ps ?_))))))))
     refine L_ps (L_ps (L_ps (L_r (r_pf rfl rfl) (L_r (r_mb rfl) (L_ps (L_ps (L_ps (L_ps ?_))))))))
     refine L_ps (L_r (r_pf rfl rfl) (L_r (r_mb rfl) (L_ps (L_ps (L_ps (L_ps (L_ps (L_r (r_pf rfl rfl) ?_))))))))
     refine L_r (r_mb rfl) (L_ps (L_ps (L_ps (L_ps (L_ps (L_r (r_pf rfl rfl) (L_r (r_ab rfl) (L_nil ?_))))))))
     refine W_ret ?_
     refine ret1 (v := .bool _) rfl rfl ?_
     refine ⟨_, rfl, ?_, Ch.au⟩
     rw [key]
     clear key hxw hyw hl1 hl2 hl3 hm1 hm2 hm3 hex hey hql hqm
     simp_all
   ·
    refine L_ps (L_ps (L_ps (L_ps (L_ps (L_r (r_pf rfl rfl) (L_r (r_mb rfl) (L_ps (L_ps ?_))))))))
    refine L_ps (L_ps (L_ps (L_r (r_pf rfl rfl) (L_r (r_mb rfl) (L_ps (L_ps (L_ps (L_ps ?_))))))))
    refine L_ps (L_r (r_pf rfl rfl) (L_r (r_mb rfl) (L_ps (L_ps (L_ps (L_ps (L_ps (L_r (r_pf rfl rfl) ?_))))))))
    refine L_r (r_mb rfl) (L_ps (L_ps (L_ps (L_ps (L_ps (L_r (r_pf rfl rfl) (L_r (r_mb rfl) (L_ps ?_))))))))
    refine L_ps (L_ps (L_ps (L_ps (L_r (r_pf rfl rfl) (L_r (r_ab rfl) (L_nil (W_ret ?_)))))))
    refine ret1 (v := .bool _) rfl rfl ?_
    refine ⟨_, rfl, ?_, Ch.au⟩
    rw [key]
    clear key hxw hyw hl1 hl2 hl3 hm1 hm2 hm3 hex hey hql hqm
    simp_all
  ·
   refine L_ps (L_ps (L_ps (L_ps (L_ps (L_r (r_pf rfl rfl) (L_r (r_mb rfl) (L_ps (L_ps ?_))))))))
   refine L_ps (L_ps (L_ps (L_r (r_pf rfl rfl) (L_r (r_mb rfl) (L_ps (L_ps (L_ps (L_ps ?_))))))))
   refine L_ps (L_r (r_pf rfl rfl) (L_r (r_mb rfl) (L_ps (L_ps (L_ps (L_ps (L_ps (L_r (r_pf rfl rfl) ?_))))))))
   refine L_r (r_mb rfl) (L_ps (L_ps (L_ps (L_ps (L_ps (L_r (r_pf rfl rfl) (L_r (r_mb rfl) (L_ps ?_))))))))
   refine L_ps (L_ps (L_ps (L_ps (L_r (r_pf rfl rfl) (L_r (r_mb rfl) (L_ps (L_ps (L_ps ?_))))))))
   refine L_ps (L_ps (L_r (r_pf rfl rfl) (L_r (r_ab rfl) (L_nil (W_ret ?_)))))
   refine ret1 (v := .bool _) rfl rfl ?_
   refine ⟨_, rfl, ?_, Ch.au⟩
   rw [key]
   clear key hxw hyw hl1 hl2 hl3 hm1 hm2 hm3 hex hey hql hqm
   simp_all
end Go.Proofs.YthpknpfhpkkheaaGreatDoor
